/- Chapter 15: the tokens of a printed program. Chapter 15: what is printed is read as its tokens. Chapter 15: the tokens of a printed program are parsed as it was. -/
import Derived.Test.YtgcncdjnipfolaaDoorPls
import Derived.Test.YtgcncdjnipfolaaDoorSy3
set_option linter.unusedSimpArgs false
set_option linter.unusedVariables false
set_option maxRecDepth 10000
namespace Go.Proofs.YtgcncdjnipfolaaDoor
open Go.Al
mutual
def tokE' : Ex → List Tok
  | .mk k o n s l =>
    if k = 1 then [tD n]
    else if k = 2 then [tN s]
    else if k = 3 then [tN s] ++ ([tS [91]] ++ (tokL l ++ [tS [93]]))
    else if k = 4 then [tN s] ++ ([tS [40]] ++ (tokL l ++ [tS [41]]))
    else if k = 5 then [tW [103, 101, 116], tS [40], tS [41]]
    else if k = 7 then [tS [33]] ++ tokL l
    else if k = 6 ∨ k = 8 ∨ k = 9 then [tS [40]] ++ (tok1 l ++ ([tS (sgn k o)] ++ (tok2 l ++ [tS [41]])))
    else []
def tokL : List Ex → List Tok
  | [] => []
  | e :: l => tokE' e ++ tokT l
def tokT : List Ex → List Tok
  | [] => []
  | e :: l => [tS [44]] ++ (tokE' e ++ tokT l)
def tok1 : List Ex → List Tok
  | [] => []
  | e :: _ => tokE' e
def tok2 : List Ex → List Tok
  | [] => []
  | _ :: l => tokL l
end
mutual
def tokM : Sm → List Tok
  | .mk k s l t u =>
    if k = 1 then [tN s] ++ ([tS [61]] ++ (tokL l ++ [tS [59]]))
    else if k = 2 then [tN s] ++ ([tS [91]] ++ (tok1 l ++ ([tS [93], tS [61]] ++ (tok2 l ++ [tS [59]]))))
    else if k = 3 then [tW wPut, tS [40]] ++ (tokL l ++ [tS [41], tS [59]])
    else if k = 6 then [tN s] ++ ([tS [40]] ++ (tokL l ++ [tS [41], tS [59]]))
    else if k = 7 then [tW wReturn] ++ (tokL l ++ [tS [59]])
    else if k = 4 ∨ k = 5 then [tW (if k = 5 then wWhile else wIf), tS [40]] ++ (tokL l ++ ([tS [41], tS [123]] ++ (tokB t ++
      ((if u.length = 0 then [] else [tS [125], tW wElse, tS [123]] ++ tokB u) ++ [tS [125]]))))
    else []
def tokB : List Sm → List Tok
  | [] => []
  | s :: l => tokM s ++ tokB l
end
def tokCT : List Str → List Tok
  | [] => []
  | s :: l => [tS [44]] ++ ([tN s] ++ tokCT l)
def tokC : List Str → List Tok
  | [] => []
  | s :: l => [tN s] ++ tokCT l
def tokA (a : Ar) : List Tok := [tW wArray] ++ ([tN a.name] ++ ([tS [91]] ++ ([tD a.size] ++ [tS [93], tS [59]])))
def tokAs : List Ar → List Tok
  | [] => []
  | a :: l => tokA a ++ tokAs l
def tokF (f : Fu) : List Tok := [tW wFunc] ++ ([tN f.name] ++ ([tS [40]] ++ (tokC f.params ++ ([tS [41]] ++ ((if f.word then [tW wWord] else []) ++ ([tS [123]] ++
  ((if f.locs.length = 0 then [] else [tW wVar] ++ (tokC f.locs ++ [tS [59]])) ++ (tokB f.body ++ [tS [125]]))))))))
def tokFs : List Fu → List Tok
  | [] => []
  | f :: l => tokF f ++ tokFs l
def tokP (p : Pg) : List Tok := (if p.vars.length = 0 then [] else [tW wVar] ++ (tokC p.vars ++ [tS [59]])) ++ (tokAs p.arrs ++ tokFs p.funs)
/-! ### the shapes of what is right -/
inductive RX : Ex → Prop where
  | num (n : Int) (h : u32R n) : RX (.mk 1 0 n [] [])
  | var (s : Str) (h : nameB s = true) : RX (.mk 2 0 0 s [])
  | idx (s : Str) (a : Ex) (h : nameB s = true) (ha : RX a) : RX (.mk 3 0 0 s [a])
  | call (s : Str) (l : List Ex) (h : nameB s = true) (hl : ∀ a ∈ l, RX a) : RX (.mk 4 0 0 s l)
  | get : RX (.mk 5 0 0 [] [])
  | neg (a : Ex) (ha : RX a) : RX (.mk 7 0 0 [] [a])
  | bin (k o : Int) (a b : Ex) (h : k = 6 ∧ 4 ≤ o ∧ o ≤ 15 ∨ k = 8 ∧ o = 0 ∨ k = 9 ∧ o = 0) (ha : RX a) (hb : RX b) : RX (.mk k o 0 [] [a, b])
theorem len_one {α : Type} {l : List α} (h : l.length = 1) : ∃ a, l = [a] := by
  match l, h with
  | [a], _ => exact ⟨a, rfl⟩
theorem len_two {α : Type} {l : List α} (h : l.length = 2) : ∃ a b, l = [a, b] := by
  match l, h with
  | [a, b], _ => exact ⟨a, b, rfl⟩
theorem rightE_mem {l : List Ex} {level : Int} (h : rightE l level = true) : ∀ a ∈ l, rightX a level = true := by
  induction l with
  | nil => intro a ha; cases ha
  | cons e l ih =>
    rw [rightE_cons, Bool.and_eq_true] at h
    intro a ha
    rcases List.mem_cons.1 ha with rfl | ha
    · exact h.1
    · exact ih h.2 a ha
theorem rightS_memB {l : List Sm} {level : Int} (h : rightS l level = true) : ∀ a ∈ l, rightM a level = true := by
  induction l with
  | nil => intro a ha; cases ha
  | cons e l ih =>
    rw [rightS_cons, Bool.and_eq_true] at h
    intro a ha
    rcases List.mem_cons.1 ha with rfl | ha
    · exact h.1
    · exact ih h.2 a ha
theorem kids_kind {k o : Int} {n : Nat} (h : kidsX k o n = true) : k = 1 ∨ k = 2 ∨ k = 3 ∨ k = 4 ∨ k = 5 ∨ k = 6 ∨ k = 7 ∨ k = 8 ∨ k = 9 := by
  unfold kidsX at h
  split at h
  · omega
  split at h
  · omega
  split at h
  · omega
  split at h
  · omega
  split at h
  · omega
  · cases h
theorem rx_of (N : Nat) : ∀ (e : Ex) (level : Int), e.sz ≤ N → e.ok → rightX e level = true → RX e := by
  induction N using Nat.strongRecOn with
  | _ N ih =>
    intro e level hz ho hr
    have hk := fun a ha => ho.kids.all a ha
    have hn : u32R e.num := by cases ho; assumption
    have hsz := e.sz_eq
    simp only [rightX, Bool.and_eq_true] at hr
    obtain ⟨⟨h1, h2⟩, h3⟩ := hr
    have hm : ∀ a ∈ e.kids, RX a := fun a ha => ih a.sz (by have := szE_mem ha; omega) a _ (Nat.le_refl _) (hk a ha) (rightE_mem h3 a ha)
    obtain ⟨k, o, n, s, l⟩ := e
    simp only [Ex.kind, Ex.op, Ex.num, Ex.name, Ex.kids] at h1 h2 hm hn
    have h1 : (decide (level ≤ 24) && (decide (k = 6) || decide (o = 0)) && (decide (k = 1) || decide (n = 0)) && (if k = 2 ∨ k = 3 ∨ k = 4 then nameB s else decide (s = []))) = true := h1
    simp only [Bool.and_eq_true, Bool.or_eq_true, decide_eq_true_eq] at h1
    rcases kids_kind h2 with rfl | rfl | rfl | rfl | rfl | rfl | rfl | rfl | rfl <;>
      simp [kidsX] at h1 h2
    · obtain ⟨⟨_, rfl⟩, rfl⟩ := h1; subst h2; exact .num n hn
    · obtain ⟨⟨⟨_, rfl⟩, rfl⟩, h⟩ := h1; subst h2; exact .var s h
    · obtain ⟨⟨⟨_, rfl⟩, rfl⟩, h⟩ := h1; obtain ⟨a, rfl⟩ := len_one h2; exact .idx s a h (hm a (List.mem_cons_self))
    · obtain ⟨⟨⟨_, rfl⟩, rfl⟩, h⟩ := h1; exact .call s l h hm
    · obtain ⟨⟨⟨_, rfl⟩, rfl⟩, rfl⟩ := h1; subst h2; exact .get
    · obtain ⟨⟨_, rfl⟩, rfl⟩ := h1; obtain ⟨⟨g1, g2⟩, g3⟩ := h2; obtain ⟨a, b, rfl⟩ := len_two g3
      exact .bin 6 o a b (.inl ⟨rfl, g1, g2⟩) (hm a (List.mem_cons_self)) (hm b (by simp))
    · obtain ⟨⟨⟨_, rfl⟩, rfl⟩, rfl⟩ := h1; obtain ⟨a, rfl⟩ := len_one h2; exact .neg a (hm a (List.mem_cons_self))
    · obtain ⟨⟨⟨_, rfl⟩, rfl⟩, rfl⟩ := h1; obtain ⟨a, b, rfl⟩ := len_two h2
      exact .bin 8 0 a b (.inr (.inl ⟨rfl, rfl⟩)) (hm a (List.mem_cons_self)) (hm b (by simp))
    · obtain ⟨⟨⟨_, rfl⟩, rfl⟩, rfl⟩ := h1; obtain ⟨a, b, rfl⟩ := len_two h2
      exact .bin 9 0 a b (.inr (.inr ⟨rfl, rfl⟩)) (hm a (List.mem_cons_self)) (hm b (by simp))
inductive RM : Sm → Prop where
  | set (s : Str) (e : Ex) (h : nameB s = true) (he : RX e) : RM (.mk 1 s [e] [] [])
  | store (s : Str) (a e : Ex) (h : nameB s = true) (ha : RX a) (he : RX e) : RM (.mk 2 s [a, e] [] [])
  | put (e : Ex) (he : RX e) : RM (.mk 3 [] [e] [] [])
  | cond (e : Ex) (t u : List Sm) (he : RX e) (ht : ∀ s ∈ t, RM s) (hu : ∀ s ∈ u, RM s) : RM (.mk 4 [] [e] t u)
  | loop (e : Ex) (t : List Sm) (he : RX e) (ht : ∀ s ∈ t, RM s) : RM (.mk 5 [] [e] t [])
  | call (s : Str) (l : List Ex) (h : nameB s = true) (hl : ∀ a ∈ l, RX a) : RM (.mk 6 s l [] [])
  | ret0 : RM (.mk 7 [] [] [] [])
  | ret1 (e : Ex) (he : RX e) : RM (.mk 7 [] [e] [] [])
theorem fit_kind {k : Int} {n : Nat} (h : fitS k n = true) : k = 1 ∨ k = 2 ∨ k = 3 ∨ k = 4 ∨ k = 5 ∨ k = 6 ∨ k = 7 := by
  unfold fitS at h
  split at h
  · omega
  split at h
  · omega
  split at h
  · omega
  split at h
  · omega
  · cases h
theorem rm_of (N : Nat) : ∀ (e : Sm) (level : Int), e.sz ≤ N → e.ok → rightM e level = true → RM e := by
  induction N using Nat.strongRecOn with
  | _ N ih =>
    intro e level hz ho hr
    have hsz := e.sz_eq
    have hs1 := ho.es
    have hs2 := ho.thn
    have hs3 := ho.els
    simp only [rightM, Bool.and_eq_true] at hr
    obtain ⟨⟨⟨⟨h1, h2⟩, h3⟩, h4⟩, h5⟩ := hr
    have hm : ∀ a ∈ e.es, RX a := fun a ha => rx_of a.sz a _ (Nat.le_refl _) (hs1.all a ha) (rightE_mem h3 a ha)
    have ht : ∀ a ∈ e.thn, RM a := fun a ha => ih a.sz (by have := szS_mem ha; omega) a _ (Nat.le_refl _) (hs2.all a ha) (rightS_memB h4 a ha)
    have hu : ∀ a ∈ e.els, RM a := fun a ha => ih a.sz (by have := szS_mem ha; omega) a _ (Nat.le_refl _) (hs3.all a ha) (rightS_memB h5 a ha)
    obtain ⟨k, s, l, t, u⟩ := e
    simp only [Sm.kind, Sm.name, Sm.es, Sm.thn, Sm.els] at h1 h2 hm ht hu
    have h1 : (decide (level ≤ 24) && (decide (k = 4) || decide (u.length = 0)) && (decide (k = 4) || decide (k = 5) || decide (t.length = 0)) && (if k = 1 ∨ k = 2 ∨ k = 6 then nameB s else decide (s = []))) = true := h1
    simp only [Bool.and_eq_true, Bool.or_eq_true, decide_eq_true_eq] at h1
    rcases fit_kind h2 with rfl | rfl | rfl | rfl | rfl | rfl | rfl <;>
      simp [fitS] at h1 h2
    · obtain ⟨⟨⟨_, rfl⟩, rfl⟩, h⟩ := h1; obtain ⟨a, rfl⟩ := len_one h2; exact .set s a h (hm a (List.mem_cons_self))
    · obtain ⟨⟨⟨_, rfl⟩, rfl⟩, h⟩ := h1; obtain ⟨a, b, rfl⟩ := len_two h2; exact .store s a b h (hm a (List.mem_cons_self)) (hm b (by simp))
    · obtain ⟨⟨⟨_, rfl⟩, rfl⟩, rfl⟩ := h1; obtain ⟨a, rfl⟩ := len_one h2; exact .put a (hm a (List.mem_cons_self))
    · obtain ⟨_, rfl⟩ := h1; obtain ⟨a, rfl⟩ := len_one h2; exact .cond a t u (hm a (List.mem_cons_self)) ht hu
    · obtain ⟨⟨_, rfl⟩, rfl⟩ := h1; obtain ⟨a, rfl⟩ := len_one h2; exact .loop a t (hm a (List.mem_cons_self)) ht
    · obtain ⟨⟨⟨_, rfl⟩, rfl⟩, h⟩ := h1; exact .call s l h hm
    · obtain ⟨⟨⟨_, rfl⟩, rfl⟩, rfl⟩ := h1
      match l, h2 with
      | [], _ => exact .ret0
      | [a], _ => exact .ret1 a (hm a (List.mem_cons_self))
end Go.Proofs.YtgcncdjnipfolaaDoor

namespace Go.Proofs.YtgcncdjnipfolaaDoor
open Go.Al
theorem cl_sgn {k o : Int} (h : sgn k o ∈ signsL) (r : Str) : cl (sgn k o ++ r) := by
  have key : ∀ w ∈ signsL, ∃ c t, w = c :: t ∧ isN c = false := by
    intro w hw
    simp only [signsL, List.mem_cons, List.not_mem_nil, or_false] at hw
    rcases hw with rfl | rfl | rfl | rfl | rfl | rfl | rfl | rfl | rfl | rfl | rfl | rfl | rfl | rfl | rfl | rfl | rfl | rfl | rfl | rfl | rfl | rfl | rfl | rfl <;> exact ⟨_, _, rfl, by decide⟩
  obtain ⟨c, t, e, hc⟩ := key _ h
  rw [e]; exact cl_cons hc _
structure SG (k o : Int) : Prop where
  mem : sgn k o ∈ signsL
  pos : 1 ≤ (sgI (sgn k o)).2.2
  join : ∀ a b, joinI (sgn k o) a b = .mk k o 0 [] [a, b]
  ne1 : sgn k o ≠ [91]
  ne2 : sgn k o ≠ [40]
theorem sg_of {k o : Int} (h : k = 6 ∧ 4 ≤ o ∧ o ≤ 15 ∨ k = 8 ∧ o = 0 ∨ k = 9 ∧ o = 0) : SG k o := by
  rcases h with ⟨rfl, h1, h2⟩ | ⟨rfl, rfl⟩ | ⟨rfl, rfl⟩
  · have ho : o = 4 ∨ o = 5 ∨ o = 6 ∨ o = 7 ∨ o = 8 ∨ o = 9 ∨ o = 10 ∨ o = 11 ∨ o = 12 ∨ o = 13 ∨ o = 14 ∨ o = 15 := by omega
    rcases ho with rfl | rfl | rfl | rfl | rfl | rfl | rfl | rfl | rfl | rfl | rfl | rfl <;> exact ⟨by decide, by decide, fun _ _ => rfl, by decide, by decide⟩
  · exact ⟨by decide, by decide, fun _ _ => rfl, by decide, by decide⟩
  · exact ⟨by decide, by decide, fun _ _ => rfl, by decide, by decide⟩
theorem cc40 : RdC [40] [tS [40]] := .one (by decide) (by decide) (by decide)
theorem cc41 : RdC [41] [tS [41]] := .one (by decide) (by decide) (by decide)
theorem cc91 : RdC [91] [tS [91]] := .one (by decide) (by decide) (by decide)
theorem cc93 : RdC [93] [tS [93]] := .one (by decide) (by decide) (by decide)
theorem cc33 : RdC [33] [tS [33]] := .one (by decide) (by decide) (by decide)
theorem cc44 : RdC [44] [tS [44]] := .one (by decide) (by decide) (by decide)
theorem cc59 : RdC [59] [tS [59]] := .one (by decide) (by decide) (by decide)
theorem cc123 : RdC [123] [tS [123]] := .one (by decide) (by decide) (by decide)
theorem cc125 : RdC [125] [tS [125]] := .one (by decide) (by decide) (by decide)
theorem cc32 : RdC [32] [] := .ws (by decide)
theorem cc10 : RdC [10] [] := .ws (by decide)
theorem cc44s : RdC [44, 32] [tS [44]] := cc44.app cc32
theorem prT_cl (l : List Ex) : cl (prT l) := by
  cases l with
  | nil => rw [prT]; exact cl_nil
  | cons e l => rw [prT]; exact cl_cons (by decide) _
theorem rd_prT {l : List Ex} (h : ∀ e ∈ l, RdO (prE e) (tokE' e)) : RdO (prT l) (tokT l) := by
  induction l with
  | nil => rw [prT, tokT]; exact RdC.nil.o
  | cons e l ih =>
    rw [prT, tokT]
    exact cc44s.appO ((h e (List.mem_cons_self)).app (ih fun x hx => h x (List.mem_cons_of_mem _ hx)) (prT_cl l))
theorem rd_prL {l : List Ex} (h : ∀ e ∈ l, RdO (prE e) (tokE' e)) : RdO (prL l) (tokL l) := by
  cases l with
  | nil => rw [prL, tokL]; exact RdC.nil.o
  | cons e l =>
    rw [prL, tokL]
    exact (h e (List.mem_cons_self)).app (rd_prT fun x hx => h x (List.mem_cons_of_mem _ hx)) (prT_cl l)
theorem L1 (e : Ex) : prL [e] = prE e ∧ tokL [e] = tokE' e := by simp [prL, prT, tokL, tokT]
theorem rd_expr {e : Ex} (h : RX e) : RdO (prE e) (tokE' e) := by
  induction h with
  | num n h => simp only [prE, tokE', if_true]; exact .num h
  | var s h => simp only [prE, tokE', Int.reduceEq, if_true, if_false]; exact .name h
  | idx s a h ha ih =>
    simp only [prE, tokE', Int.reduceEq, if_true, if_false]
    exact ((RdO.name h).appC (cc91) (cl_cons (by decide) _) (by simp)).appO (s2 := prL [a] ++ [93]) (by rw [(L1 a).1, (L1 a).2]; exact (ih.appC cc93 (cl_cons (by decide) _) (by simp)).o) |> fun z => by simpa only [List.append_assoc] using z
  | call s l h hl ih =>
    simp only [prE, tokE', Int.reduceEq, if_true, if_false]
    exact ((RdO.name h).appC (cc40) (cl_cons (by decide) _) (by simp)).appO (s2 := prL l ++ [41]) ((rd_prL ih).appC cc41 (cl_cons (by decide) _) (by simp)).o |> fun z => by simpa only [List.append_assoc] using z
  | get =>
    simp only [prE, tokE', Int.reduceEq, if_true, if_false]
    exact ((RdO.word (s := [103, 101, 116]) (by decide)).appC (cc40.app cc41) (cl_cons (by decide) _) (by simp)).o
  | neg a ha ih =>
    simp only [prE, tokE', Int.reduceEq, if_true, if_false]
    rw [(L1 a).1, (L1 a).2]
    exact cc33.appO ih
  | bin k o a b h ha hb iha ihb =>
    have hs := sg_of h
    have hk : k ≠ 1 ∧ k ≠ 2 ∧ k ≠ 3 ∧ k ≠ 4 ∧ k ≠ 5 ∧ k ≠ 7 ∧ (k = 6 ∨ k = 8 ∨ k = 9) := by omega
    simp only [prE, tokE', hk.1, hk.2.1, hk.2.2.1, hk.2.2.2.1, hk.2.2.2.2.1, hk.2.2.2.2.2.1, hk.2.2.2.2.2.2, if_true, if_false, pr1, pr2, tok1, tok2]
    rw [(L1 b).1, (L1 b).2]
    have h1 : RdC ([32] ++ (sgn k o ++ [32])) [tS (sgn k o)] := cc32.app (RdC.sgn hs.mem)
    have h2 := (cc40.appO iha).appC h1 (cl_cons (by decide) _) (by simp)
    have h3 := (h2.appO (ihb.appC cc41 (cl_cons (by decide) _) (by simp)).o)
    simpa only [List.append_assoc] using h3
/-! ### statements -/
theorem rd_ind : ∀ lv, RdC (ind lv) []
  | 0 => RdC.nil
  | lv + 1 => by rw [ind]; exact (cc32.app cc32).app (rd_ind lv)
theorem c_eq : RdC [32, 61, 32] [tS [61]] := cc32.app (RdC.sgn (w := [61]) (by decide))
theorem c_end : RdC [59, 10] [tS [59]] := cc59.app cc10
theorem c_cend : RdC [41, 59, 10] [tS [41], tS [59]] := cc41.app (cc59.app cc10)
theorem c_beg : RdC [41, 32, 123, 10] [tS [41], tS [123]] := cc41.app (cc32.app (cc123.app cc10))
theorem c_fin : RdC [125, 10] [tS [125]] := cc125.app cc10
theorem c_else : RdC [125, 32, 101, 108, 115, 101, 32, 123, 10] [tS [125], tW wElse, tS [123]] :=
  cc125.app (cc32.app ((RdO.word (s := wElse) (by decide)).appC (cc32.app (cc123.app cc10)) (cl_cons (by decide) _) (by simp)))
theorem c_put : RdC [112, 117, 116, 40] [tW wPut, tS [40]] := (RdO.word (s := wPut) (by decide)).appC cc40 (cl_cons (by decide) _) (by simp)
theorem c_while : RdC [119, 104, 105, 108, 101, 32, 40] [tW wWhile, tS [40]] := (RdO.word (s := wWhile) (by decide)).appC (cc32.app cc40) (cl_cons (by decide) _) (by simp)
theorem c_if : RdC [105, 102, 32, 40] [tW wIf, tS [40]] := (RdO.word (s := wIf) (by decide)).appC (cc32.app cc40) (cl_cons (by decide) _) (by simp)
theorem rd_prB {lv : Nat} {l : List Sm} (h : ∀ s ∈ l, RdC (prM lv s) (tokM s)) : RdC (prB lv l) (tokB l) := by
  induction l with
  | nil => rw [prB, tokB]; exact RdC.nil
  | cons s l ih => rw [prB, tokB]; exact (h s (List.mem_cons_self)).app (ih fun x hx => h x (List.mem_cons_of_mem _ hx))
theorem rd_stmt {s : Sm} (h : RM s) : ∀ lv, RdC (prM lv s) (tokM s) := by
  induction h with
  | set s e h he =>
    intro lv
    simp only [prM, tokM, if_true]
    rw [(L1 e).1, (L1 e).2]
    exact (rd_ind lv).app ((RdO.name h).appC (c_eq.app ((rd_expr he).appC c_end (cl_cons (by decide) _) (by simp))) (cl_cons (by decide) _) (by simp))
  | store s a e h ha he =>
    intro lv
    simp only [prM, tokM, Int.reduceEq, if_true, if_false, pr1, pr2, tok1, tok2]
    rw [(L1 e).1, (L1 e).2]
    exact (rd_ind lv).app ((RdO.name h).appC (cc91.app ((rd_expr ha).appC ((cc93.app c_eq).app ((rd_expr he).appC c_end (cl_cons (by decide) _) (by simp))) (cl_cons (by decide) _) (by simp))) (cl_cons (by decide) _) (by simp))
  | put e he =>
    intro lv
    simp only [prM, tokM, Int.reduceEq, if_true, if_false]
    rw [(L1 e).1, (L1 e).2]
    exact (rd_ind lv).app (c_put.app ((rd_expr he).appC c_cend (cl_cons (by decide) _) (by simp)))
  | call s l h hl =>
    intro lv
    simp only [prM, tokM, Int.reduceEq, if_true, if_false]
    exact (rd_ind lv).app ((RdO.name h).appC (cc40.app ((rd_prL fun e he => rd_expr (hl e he)).appC c_cend (cl_cons (by decide) _) (by simp))) (cl_cons (by decide) _) (by simp))
  | ret0 =>
    intro lv
    simp only [prM, tokM, Int.reduceEq, if_true, if_false, List.length_nil, tokL]
    exact (rd_ind lv).app ((RdO.word (s := wReturn) (by decide)).appC c_end (cl_cons (by decide) _) (by simp))
  | ret1 e he =>
    intro lv
    simp only [prM, tokM, Int.reduceEq, if_true, if_false, List.length_cons, List.length_nil, Nat.reduceAdd, Nat.reduceEqDiff]
    rw [(L1 e).1, (L1 e).2]
    have := (rd_ind lv).app ((RdO.word (s := wReturn) (by decide)).appC (cc32.app ((rd_expr he).appC c_end (cl_cons (by decide) _) (by simp))) (cl_cons (by decide) _) (by simp))
    simpa only [List.append_assoc, List.nil_append, wReturn] using this
  | loop e t he ht ih =>
    intro lv
    simp only [prM, tokM, Int.reduceEq, if_true, if_false, or_true, List.length_nil]
    rw [(L1 e).1, (L1 e).2]
    exact (rd_ind lv).app (c_while.app ((rd_expr he).appC (c_beg.app ((rd_prB fun s hs => ih s hs (lv + 1)).app ((RdC.nil).app ((rd_ind lv).app c_fin)))) (cl_cons (by decide) _) (by simp)))
  | cond e t u he ht hu iht ihu =>
    intro lv
    simp only [prM, tokM, Int.reduceEq, if_true, if_false, true_or]
    rw [(L1 e).1, (L1 e).2]
    refine (rd_ind lv).app (c_if.app ((rd_expr he).appC (c_beg.app ((rd_prB fun s hs => iht s hs (lv + 1)).app (RdC.app ?_ ((rd_ind lv).app c_fin)))) (cl_cons (by decide) _) (by simp)))
    split
    · exact RdC.nil
    · exact (rd_ind lv).app (c_else.app (rd_prB fun s hs => ihu s hs (lv + 1)))
/-! ### programs -/
theorem comma_cons (s : Str) (l : List Str) : comma (s :: l) = s ++ Lib.joinTail [44, 32] l := Lib.join_cons s l [44, 32]
theorem tail_cons (s : Str) (l : List Str) : Lib.joinTail [44, 32] (s :: l) = [44, 32] ++ (s ++ Lib.joinTail [44, 32] l) := by simp [Lib.joinTail]
theorem tail_cl (l : List Str) : cl (Lib.joinTail [44, 32] l) := by
  cases l with
  | nil => exact cl_nil
  | cons s l => rw [tail_cons]; exact cl_cons (by decide) _
theorem rd_tail {l : List Str} (h : ∀ s ∈ l, nameB s = true) : RdO (Lib.joinTail [44, 32] l) (tokCT l) := by
  induction l with
  | nil => exact RdC.nil.o
  | cons s l ih =>
    rw [tail_cons, tokCT]
    exact cc44s.appO ((RdO.name (h s (List.mem_cons_self))).app (ih fun x hx => h x (List.mem_cons_of_mem _ hx)) (tail_cl l))
theorem rd_comma {l : List Str} (h : ∀ s ∈ l, nameB s = true) : RdO (comma l) (tokC l) := by
  cases l with
  | nil => exact RdC.nil.o
  | cons s l =>
    rw [comma_cons, tokC]
    exact (RdO.name (h s (List.mem_cons_self))).app (rd_tail fun x hx => h x (List.mem_cons_of_mem _ hx)) (tail_cl l)
structure RA (a : Ar) : Prop where
  name : nameB a.name = true
  size : u32R a.size
structure RF (f : Fu) : Prop where
  name : nameB f.name = true
  params : ∀ s ∈ f.params, nameB s = true
  locs : ∀ s ∈ f.locs, nameB s = true
  body : ∀ s ∈ f.body, RM s
structure RP (p : Pg) : Prop where
  vars : ∀ s ∈ p.vars, nameB s = true
  arrs : ∀ a ∈ p.arrs, RA a
  funs : ∀ f ∈ p.funs, RF f
  ne : p.funs ≠ []
theorem rd_arr {a : Ar} (h : RA a) : RdC (prA a) (tokA a) := by
  unfold prA tokA
  have h1 : RdC [97, 114, 114, 97, 121, 32] [tW wArray] := (RdO.word (s := wArray) (by decide)).appC cc32 (cl_cons (by decide) _) (by simp)
  exact h1.app ((RdO.name h.name).appC (cc91.app ((RdO.num h.size).appC (cc93.app c_end) (cl_cons (by decide) _) (by simp))) (cl_cons (by decide) _) (by simp))
theorem rd_arrs : ∀ {l : List Ar}, (∀ a ∈ l, RA a) → RdC (prAs l) (tokAs l)
  | [], _ => by rw [prAs, tokAs]; exact RdC.nil
  | a :: l, h => by rw [prAs, tokAs]; exact (rd_arr (h a (List.mem_cons_self))).app (rd_arrs fun x hx => h x (List.mem_cons_of_mem _ hx))
theorem rd_fun {f : Fu} (h : RF f) : RdC (prF f) (tokF f) := by
  unfold prF tokF
  have h1 : RdC [102, 117, 110, 99, 32] [tW wFunc] := (RdO.word (s := wFunc) (by decide)).appC cc32 (cl_cons (by decide) _) (by simp)
  have h2 : RdC [32, 123, 10] [tS [123]] := cc32.app (cc123.app cc10)
  have h3 : RdC (if f.locs.length = 0 then [] else [32, 32, 118, 97, 114, 32] ++ (comma f.locs ++ [59, 10])) (if f.locs.length = 0 then [] else [tW wVar] ++ (tokC f.locs ++ [tS [59]])) := by
    split
    · exact RdC.nil
    · have h4 : RdC [32, 32, 118, 97, 114, 32] [tW wVar] := (cc32.app cc32).app ((RdO.word (s := wVar) (by decide)).appC cc32 (cl_cons (by decide) _) (by simp))
      exact h4.app ((rd_comma h.locs).appC c_end (cl_cons (by decide) _) (by simp))
  have h5 : RdC (prB 1 f.body ++ [125, 10]) (tokB f.body ++ [tS [125]]) := (rd_prB fun s hs => rd_stmt (h.body s hs) 1).app c_fin
  have h6 : RdC ((if f.word then [32, 119, 111, 114, 100] else []) ++ ([32, 123, 10] ++ ((if f.locs.length = 0 then [] else [32, 32, 118, 97, 114, 32] ++ (comma f.locs ++ [59, 10])) ++ (prB 1 f.body ++ [125, 10]))))
      ((if f.word then [tW wWord] else []) ++ ([tS [123]] ++ ((if f.locs.length = 0 then [] else [tW wVar] ++ (tokC f.locs ++ [tS [59]])) ++ (tokB f.body ++ [tS [125]])))) := by
    cases f.word
    · exact RdC.nil.app (h2.app (h3.app h5))
    · exact (cc32.appO (RdO.word (s := wWord) (by decide))).appC (h2.app (h3.app h5)) (cl_cons (by decide) _) (by simp)
  exact h1.app ((RdO.name h.name).appC (cc40.app ((rd_comma h.params).appC (cc41.app h6) (cl_cons (by decide) _) (by simp))) (cl_cons (by decide) _) (by simp))
theorem rd_funs : ∀ {l : List Fu}, (∀ a ∈ l, RF a) → RdC (prFs l) (tokFs l)
  | [], _ => by rw [prFs, tokFs]; exact RdC.nil
  | a :: l, h => by rw [prFs, tokFs]; exact (rd_fun (h a (List.mem_cons_self))).app (rd_funs fun x hx => h x (List.mem_cons_of_mem _ hx))
theorem rd_prog {p : Pg} (h : RP p) : RdC (prP p) (tokP p) := by
  unfold prP tokP
  refine RdC.app ?_ ((rd_arrs h.arrs).app (rd_funs h.funs))
  split
  · exact RdC.nil
  · have h1 : RdC [118, 97, 114, 32] [tW wVar] := (RdO.word (s := wVar) (by decide)).appC cc32 (cl_cons (by decide) _) (by simp)
    exact h1.app ((rd_comma h.vars).appC c_end (cl_cons (by decide) _) (by simp))
theorem rp_of {p : Pg} (ho : p.ok) (h : rightP p = true) : RP p := by
  simp only [rightP, Bool.and_eq_true, decide_eq_true_eq, List.all_eq_true] at h
  obtain ⟨⟨⟨⟨h1, h2⟩, h3⟩, h4⟩, h5⟩ := h
  refine ⟨h1, fun a ha => ?_, fun f hf => ?_, fun e => by rw [e] at h2; exact absurd h2 (by decide)⟩
  · have := h4 a ha
    simp only [rightA, Bool.and_eq_true, decide_eq_true_eq] at this
    exact ⟨this.1.1, by unfold u32R; omega⟩
  · have := h5 f hf
    simp only [rightF, Bool.and_eq_true, decide_eq_true_eq, List.all_eq_true] at this
    have hb := (ho.funs f hf).body
    exact ⟨this.1.1.1.1, this.1.1.2, this.1.2, fun s hs => rm_of s.sz s 1 (Nat.le_refl _) (hb.all s hs) (rightS_memB this.2 s hs)⟩
theorem lex_prog {p : Pg} (ho : p.ok) (h : rightP p = true) (hl : (prP p).length ≤ 20000) : ∃ T, lexS (prP p) = .ok T ∧ T.map Tok.z = tokP p := by
  have h1 := rd_prog (rp_of ho h) [] 0
  rw [List.append_nil] at h1
  unfold lexS
  rw [if_neg (by omega)]
  cases hx : lexH (prP p) 0 0 with
  | error e => rw [hx] at h1; cases h1
  | ok T =>
    rw [hx] at h1
    refine ⟨T, rfl, ?_⟩
    have h2 : (Except.ok (T.map Tok.z) : Except (Nat × Int) (List Tok)) = .ok (tokP p ++ []) := h1
    injection h2 with h2
    rw [h2, List.append_nil]
end Go.Proofs.YtgcncdjnipfolaaDoor

namespace Go.Proofs.YtgcncdjnipfolaaDoor
open Go.Al
def pk (D : List Tok) : Str := match D with
  | t :: _ => if t.kind = 3 ∨ t.kind = 4 then t.text else []
  | [] => []
section
variable {T : List Tok}
theorem at_drop {n : Nat} {D : List Tok} (h : T.drop n = D) : T[n]? = D.head? := by
  rw [← h, List.head?_drop]
theorem peek_drop {n : Nat} {D : List Tok} (h : T.drop n = D) : peekI T n = pk D := by
  unfold peekI pk
  rw [at_drop h]
  cases D <;> rfl
theorem next_drop {n : Nat} {t : Tok} {D : List Tok} (h : T.drop n = t :: D) : T.drop (n + 1) = D := by
  rw [← List.drop_drop, h]; rfl
theorem pass_drop {n : Nat} {l D : List Tok} (h : T.drop n = l ++ D) : T.drop (n + l.length) = D := by
  rw [← List.drop_drop, h]; simp
theorem must_drop {n : Nat} {s : Str} {D : List Tok} (h : T.drop n = tS s :: D) : mustI T s n = .ok () (n + 1) := by
  unfold mustI
  rw [peek_drop h, if_pos (show pk (tS s :: D) = s from rfl)]
theorem mustW_drop {n : Nat} {s : Str} {D : List Tok} (h : T.drop n = tW s :: D) : mustI T s n = .ok () (n + 1) := by
  unfold mustI
  rw [peek_drop h, if_pos (show pk (tW s :: D) = s from rfl)]
theorem take_drop {n : Nat} {t : Tok} {k : Int} {D : List Tok} (h : T.drop n = t :: D) (hk : t.kind = k) : takeI T k n = .ok t (n + 1) := by
  unfold takeI
  rw [at_drop h]
  simp only [List.head?_cons, hk, if_true]
theorem takeN {n : Nat} {s : Str} {D : List Tok} (h : T.drop n = tN s :: D) : takeI T 1 n = .ok (tN s) (n + 1) := take_drop h rfl
theorem takeD {n : Nat} {z : Int} {D : List Tok} (h : T.drop n = tD z :: D) : takeI T 2 n = .ok (tD z) (n + 1) := take_drop h rfl
theorem kind_drop {n : Nat} {t : Tok} {D : List Tok} (h : T.drop n = t :: D) : kindI T n = t.kind := by
  unfold kindI
  rw [at_drop h]
  rfl
def ends (D : List Tok) : Prop := pk D = [41] ∨ pk D = [44] ∨ pk D = [93] ∨ pk D = [59]
def opn (D : List Tok) : Prop := pk D ≠ [91] ∧ pk D ≠ [40]
theorem ends.opn {D : List Tok} (h : ends D) : opn D := by
  rcases h with h | h | h | h <;> simp [Proofs.YtgcncdjnipfolaaDoor.opn, h]
theorem ends.sg {D : List Tok} (h : ends D) : (sgI (pk D)).2.2 = 0 := by
  rcases h with h | h | h | h <;> rw [h] <;> decide
variable (T) in
def PA (e : Ex) : Prop := ∀ n D, T.drop n = tokE' e ++ D → opn D → atomP T n = .ok e (n + (tokE' e).length)
theorem loop_end {e : Ex} {lo n : Nat} {D : List Tok} (hl : 1 ≤ lo) (h : T.drop n = D) (he : (sgI (pk D)).2.2 = 0) : loopP T lo e n = .ok e n := by
  rw [loopP_eq T lo e n hl, peek_drop h, he, if_pos (by omega)]
theorem expr_of {e : Ex} (h : PA T e) {lo n : Nat} {D : List Tok} (hl : 1 ≤ lo) (hd : T.drop n = tokE' e ++ D) (he : ends D) : exprP T lo n = .ok e (n + (tokE' e).length) := by
  rw [exprP_eq T lo n hl, h n D hd he.opn, PR.bind_ok]
  exact loop_end hl (pass_drop hd) he.sg
theorem pk_expr {e : Ex} (h : RX e) (D : List Tok) : pk (tokE' e ++ D) = [] ∨ pk (tokE' e ++ D) = [103, 101, 116] ∨ pk (tokE' e ++ D) = [40] ∨ pk (tokE' e ++ D) = [33] := by
  cases h with
  | num n h => left; simp [tokE', pk, tD]
  | var s h => left; simp [tokE', pk, tN]
  | idx s a h ha => left; simp [tokE', pk, tN]
  | call s l h hl => left; simp [tokE', pk, tN]
  | get => right; left; simp [tokE', pk, tW]
  | neg a ha => right; right; right; simp [tokE', pk, tS]
  | bin k o a b h ha hb =>
    right; right; left
    have hk : k ≠ 1 ∧ k ≠ 2 ∧ k ≠ 3 ∧ k ≠ 4 ∧ k ≠ 5 ∧ k ≠ 7 ∧ (k = 6 ∨ k = 8 ∨ k = 9) := by omega
    simp only [tokE', hk.1, hk.2.1, hk.2.2.1, hk.2.2.2.1, hk.2.2.2.2.1, hk.2.2.2.2.2.1, hk.2.2.2.2.2.2, if_true, if_false]
    rfl
theorem tokT_nil : tokT [] = [] := by rw [tokT]
theorem tokT_cons (e : Ex) (l : List Ex) : tokT (e :: l) = tS [44] :: (tokE' e ++ tokT l) := by rw [tokT]; rfl
theorem args_tail : ∀ {l : List Ex} {acc : List Ex} {n : Nat} {D : List Tok}, (∀ e ∈ l, PA T e) → T.drop n = tokT l ++ (tS [41] :: D) → arglP T acc n = .ok (acc ++ l) (n + (tokT l).length + 1)
  | [], acc, n, D, h, hd => by
    rw [tokT_nil, List.nil_append] at hd
    rw [arglP_eq, peek_drop hd, if_neg (show ¬ pk (tS [41] :: D) = [44] by simp [pk, tS]), must_drop hd, PR.bind_ok, tokT_nil, List.append_nil]; rfl
  | e :: l, acc, n, D, h, hd => by
    rw [tokT_cons, List.cons_append, List.append_assoc] at hd
    have hd1 := next_drop hd
    have he : ends (tokT l ++ (tS [41] :: D)) := by
      cases l with
      | nil => rw [tokT_nil]; exact .inl rfl
      | cons x l => rw [tokT_cons]; exact .inr (.inl rfl)
    rw [arglP_eq, peek_drop hd, if_pos (show pk (tS [44] :: _) = [44] from rfl), expr_of (h e (List.mem_cons_self)) (Nat.le_refl 1) hd1 he, PR.bind_ok,
      args_tail (fun x hx => h x (List.mem_cons_of_mem _ hx)) (pass_drop hd1), tokT_cons]
    simp only [List.append_assoc, List.cons_append, List.nil_append, List.length_cons, List.length_append]
    congr 1; omega
theorem args_all {l : List Ex} {n : Nat} {D : List Tok} (hr : ∀ e ∈ l, RX e) (h : ∀ e ∈ l, PA T e) (hd : T.drop n = tokL l ++ (tS [41] :: D)) : argsP T n = .ok l (n + (tokL l).length + 1) := by
  cases l with
  | nil =>
    rw [tokL, List.nil_append] at hd
    rw [argsP_eq, peek_drop hd, if_pos (show pk (tS [41] :: D) = [41] from rfl), tokL]; rfl
  | cons e l =>
    rw [tokL, List.append_assoc] at hd
    have he : ends (tokT l ++ (tS [41] :: D)) := by
      cases l with
      | nil => rw [tokT_nil]; exact .inl rfl
      | cons x l => rw [tokT_cons]; exact .inr (.inl rfl)
    have hp : ¬ pk (tokE' e ++ (tokT l ++ (tS [41] :: D))) = [41] := by
      rcases pk_expr (hr e (List.mem_cons_self)) (tokT l ++ (tS [41] :: D)) with g | g | g | g <;> rw [g] <;> decide
    rw [argsP_eq, peek_drop hd, if_neg hp, expr_of (h e (List.mem_cons_self)) (Nat.le_refl 1) hd he, PR.bind_ok,
      args_tail (fun x hx => h x (List.mem_cons_of_mem _ hx)) (pass_drop hd), tokL]
    simp only [List.cons_append, List.nil_append, List.length_append]
    congr 1; omega
theorem atom_all {e : Ex} (h : RX e) : PA T e := by
  induction h with
  | num m h =>
    intro n D hd ho
    simp only [tokE', if_true, List.cons_append, List.nil_append] at hd ⊢
    rw [atomP_eq, kind_drop hd, if_pos (show (tD m).kind = 2 from rfl), takeD hd]; rfl
  | var s h =>
    intro n D hd ho
    simp only [tokE', Int.reduceEq, if_true, if_false, List.cons_append, List.nil_append] at hd ⊢
    have hd1 := next_drop hd
    rw [atomP_eq, kind_drop hd, if_neg (by simp [tN]), peek_drop hd, if_neg (by simp [pk, tN]), if_neg (by simp [pk, tN]), if_neg (by simp [pk, tN]), takeN hd, PR.bind_ok,
      peek_drop hd1, if_neg ho.1, if_neg ho.2]; rfl
  | idx s a h ha ih =>
    intro n D hd ho
    simp only [tokE', Int.reduceEq, if_true, if_false, List.cons_append, List.nil_append, (L1 a).2, List.append_assoc] at hd ⊢
    have hd1 := next_drop hd
    have hd2 := next_drop hd1
    have hd3 := pass_drop hd2
    rw [atomP_eq, kind_drop hd, if_neg (by simp [tN]), peek_drop hd, if_neg (by simp [pk, tN]), if_neg (by simp [pk, tN]), if_neg (by simp [pk, tN]), takeN hd, PR.bind_ok,
      peek_drop hd1, if_pos (by rfl), expr_of ih (Nat.le_refl 1) hd2 (.inr (.inr (.inl rfl))), PR.bind_ok, must_drop hd3, PR.bind_ok]
    simp only [List.length_cons, List.length_append, List.length_nil, tN]
    congr 1; omega
  | call s l h hl ih =>
    intro n D hd ho
    simp only [tokE', Int.reduceEq, if_true, if_false, List.cons_append, List.nil_append, List.append_assoc] at hd ⊢
    have hd1 := next_drop hd
    have hd2 := next_drop hd1
    rw [atomP_eq, kind_drop hd, if_neg (by simp [tN]), peek_drop hd, if_neg (by simp [pk, tN]), if_neg (by simp [pk, tN]), if_neg (by simp [pk, tN]), takeN hd, PR.bind_ok,
      peek_drop hd1, if_neg (by simp [pk, tS]), if_pos (by rfl), args_all hl ih hd2, PR.bind_ok]
    simp only [List.length_cons, List.length_append, List.length_nil, tN]
    congr 1; omega
  | get =>
    intro n D hd ho
    simp only [tokE', Int.reduceEq, if_true, if_false, List.cons_append, List.nil_append] at hd ⊢
    have hd1 := next_drop hd
    have hd2 := next_drop hd1
    rw [atomP_eq, kind_drop hd, if_neg (by simp [tW]), peek_drop hd, if_pos (by rfl), must_drop hd1, PR.bind_ok, must_drop hd2, PR.bind_ok]
    rfl
  | neg a ha ih =>
    intro n D hd ho
    simp only [tokE', Int.reduceEq, if_true, if_false, List.cons_append, List.nil_append, (L1 a).2] at hd ⊢
    have hd1 := next_drop hd
    rw [atomP_eq, kind_drop hd, if_neg (by simp [tS]), peek_drop hd, if_neg (by simp [pk, tS]), if_neg (by simp [pk, tS]), if_pos (by rfl), ih _ _ hd1 ho, PR.bind_ok]
    simp only [List.length_cons]
    congr 1; omega
  | bin k o a b h ha hb iha ihb =>
    intro n D hd ho
    have hs := sg_of h
    have hk : k ≠ 1 ∧ k ≠ 2 ∧ k ≠ 3 ∧ k ≠ 4 ∧ k ≠ 5 ∧ k ≠ 7 ∧ (k = 6 ∨ k = 8 ∨ k = 9) := by omega
    simp only [tokE', hk.1, hk.2.1, hk.2.2.1, hk.2.2.2.1, hk.2.2.2.2.1, hk.2.2.2.2.2.1, hk.2.2.2.2.2.2, if_true, if_false, tok1, tok2, (L1 b).2, List.cons_append, List.nil_append, List.append_assoc] at hd ⊢
    have hd1 := next_drop hd
    have hd2 := pass_drop hd1
    have hd3 := next_drop hd2
    have hd4 := pass_drop hd3
    have hp : pk (tS (sgn k o) :: (tokE' b ++ (tS [41] :: D))) = sgn k o := rfl
    have hx : exprP T 1 (n + 1) = .ok (.mk k o 0 [] [a, b]) (n + 1 + (tokE' a).length + 1 + (tokE' b).length) := by
      rw [exprP_eq T 1 (n + 1) (Nat.le_refl 1), iha _ _ hd1 ⟨by rw [hp]; exact hs.ne1, by rw [hp]; exact hs.ne2⟩, PR.bind_ok, loopP_eq T 1 _ _ (Nat.le_refl 1), peek_drop hd2, hp,
        if_neg (by have := hs.pos; omega), expr_of ihb (by omega) hd3 (.inl rfl), PR.bind_ok, hs.join]
      exact loop_end (Nat.le_refl 1) hd4 (ends.sg (.inl rfl))
    rw [atomP_eq, kind_drop hd, if_neg (by simp [tS]), peek_drop hd, if_neg (by simp [pk, tS]), if_pos (by rfl), hx, PR.bind_ok, must_drop hd4, PR.bind_ok]
    simp only [List.length_cons, List.length_append, List.length_nil]
    congr 1; omega
theorem expr_drop {e : Ex} (h : RX e) {n : Nat} {D : List Tok} (hd : T.drop n = tokE' e ++ D) (he : ends D) : exprP T 1 n = .ok e (n + (tokE' e).length) := expr_of (atom_all h) (Nat.le_refl 1) hd he
/-! ### statements -/
theorem round_drop {e : Ex} (h : RX e) {n : Nat} {D : List Tok} (hd : T.drop n = tS [40] :: (tokE' e ++ (tS [41] :: D))) : roundP T n = .ok [e] (n + (tokE' e).length + 2) := by
  have hd1 := next_drop hd
  have hd2 := pass_drop hd1
  unfold roundP
  rw [must_drop hd, PR.bind_ok, expr_drop h hd1 (.inl rfl), PR.bind_ok, must_drop hd2, PR.bind_ok]
  congr 1; omega
theorem pk_stmt {s : Sm} (h : RM s) (D : List Tok) : pk (tokM s ++ D) ≠ [125] ∧ pk (tokM s ++ D) ≠ wElse ∧ pk (tokM s ++ D) ≠ wVar := by
  cases h <;> simp [tokM, pk, tN, tW, wPut, wReturn, wIf, wWhile, wElse, wVar]
variable (T) in
def PS (s : Sm) : Prop := ∀ n D, T.drop n = tokM s ++ D → pk D ≠ wElse → stmtP T n = .ok s (n + (tokM s).length)
theorem stmts_drop : ∀ {l : List Sm} {acc : List Sm} {n : Nat} {D : List Tok}, (∀ s ∈ l, RM s) → (∀ s ∈ l, PS T s) → T.drop n = tokB l ++ (tS [125] :: D) → stmtsP T acc n = .ok (acc ++ l) (n + (tokB l).length + 1)
  | [], acc, n, D, hr, h, hd => by
    rw [tokB, List.nil_append] at hd
    rw [stmtsP_eq, peek_drop hd, if_pos (by rfl), tokB, List.append_nil]; rfl
  | s :: l, acc, n, D, hr, h, hd => by
    rw [tokB, List.append_assoc] at hd
    have hs := hr s (List.mem_cons_self)
    have hne : pk (tokB l ++ (tS [125] :: D)) ≠ wElse := by
      cases l with
      | nil => rw [tokB]; simp [pk, tS, wElse]
      | cons x l => rw [tokB, List.append_assoc]; exact (pk_stmt (hr x (by simp)) _).2.1
    rw [stmtsP_eq, peek_drop hd, if_neg (pk_stmt hs _).1, h s (List.mem_cons_self) _ _ hd hne, PR.bind_ok,
      stmts_drop (fun x hx => hr x (List.mem_cons_of_mem _ hx)) (fun x hx => h x (List.mem_cons_of_mem _ hx)) (pass_drop hd), tokB]
    simp only [List.append_assoc, List.cons_append, List.nil_append, List.length_append]
    congr 1; omega
theorem body_drop {l : List Sm} {n : Nat} {D : List Tok} (hr : ∀ s ∈ l, RM s) (h : ∀ s ∈ l, PS T s) (hd : T.drop n = tS [123] :: (tokB l ++ (tS [125] :: D))) : bodyP T n = .ok l (n + (tokB l).length + 2) := by
  have hd1 := next_drop hd
  rw [bodyP_eq, must_drop hd, PR.bind_ok, stmts_drop hr h hd1]
  simp only [List.nil_append]
  congr 1; omega
theorem named_stmt {s : Str} {n : Nat} {D : List Tok} (hd : T.drop n = tN s :: D) : stmtP T n = namedP T n := by
  rw [stmtP_eq, peek_drop hd, if_neg (by simp [pk, tN, wPut]), if_neg (by simp [pk, tN, wReturn]), if_neg (by simp [pk, tN, wIf]), if_neg (by simp [pk, tN, wWhile])]
theorem stmt_all {s : Sm} (h : RM s) : PS T s := by
  induction h with
  | set s e h he =>
    intro n D hd ho
    simp only [tokM, if_true, (L1 e).2, List.cons_append, List.nil_append, List.append_assoc] at hd ⊢
    have hd1 := next_drop hd
    have hd2 := next_drop hd1
    have hd3 := pass_drop hd2
    rw [named_stmt hd, namedP, takeN hd, PR.bind_ok, peek_drop hd1, if_pos (by rfl), expr_drop he hd2 (.inr (.inr (.inr rfl))), PR.bind_ok, PR.bind_ok, must_drop hd3, PR.bind_ok]
    simp only [List.length_cons, List.length_append, List.length_nil, tN]
    congr 1; omega
  | store s a e h ha he =>
    intro n D hd ho
    simp only [tokM, Int.reduceEq, if_true, if_false, tok1, tok2, (L1 e).2, List.cons_append, List.nil_append, List.append_assoc] at hd ⊢
    have hd1 := next_drop hd
    have hd2 := next_drop hd1
    have hd3 := pass_drop hd2
    have hd4 := next_drop hd3
    have hd5 := next_drop hd4
    have hd6 := pass_drop hd5
    rw [named_stmt hd, namedP, takeN hd, PR.bind_ok, peek_drop hd1, if_neg (by simp [pk, tS]), if_pos (by rfl), expr_drop ha hd2 (.inr (.inr (.inl rfl))), PR.bind_ok, must_drop hd3, PR.bind_ok, must_drop hd4, PR.bind_ok,
      expr_drop he hd5 (.inr (.inr (.inr rfl))), PR.bind_ok, PR.bind_ok, must_drop hd6, PR.bind_ok]
    simp only [List.length_cons, List.length_append, List.length_nil, tN]
    congr 1; omega
  | put e he =>
    intro n D hd ho
    simp only [tokM, Int.reduceEq, if_true, if_false, (L1 e).2, List.cons_append, List.nil_append, List.append_assoc] at hd ⊢
    have hd1 := next_drop hd
    have hd2 : T.drop (n + 1 + (tokE' e).length + 2) = tS [59] :: D := by
      have := next_drop (pass_drop (next_drop hd1))
      rw [show n + 1 + (tokE' e).length + 2 = n + 1 + 1 + (tokE' e).length + 1 by omega]; exact this
    rw [stmtP_eq, peek_drop hd, if_pos (by rfl), round_drop he hd1, PR.bind_ok, must_drop hd2, PR.bind_ok]
    simp only [List.length_cons, List.length_append, List.length_nil]
    congr 1; omega
  | call s l h hl =>
    intro n D hd ho
    simp only [tokM, Int.reduceEq, if_true, if_false, List.cons_append, List.nil_append, List.append_assoc] at hd ⊢
    have hd1 := next_drop hd
    have hd2 := next_drop hd1
    have hd3 := next_drop (pass_drop hd2)
    rw [named_stmt hd, namedP, takeN hd, PR.bind_ok, peek_drop hd1, if_neg (by simp [pk, tS]), if_neg (by simp [pk, tS]), if_pos (by rfl), args_all hl (fun e he => atom_all (hl e he)) hd2, PR.bind_ok, PR.bind_ok, must_drop hd3, PR.bind_ok]
    simp only [List.length_cons, List.length_append, List.length_nil, tN]
    congr 1; omega
  | ret0 =>
    intro n D hd ho
    simp only [tokM, Int.reduceEq, if_true, if_false, tokL, List.cons_append, List.nil_append, List.append_assoc] at hd ⊢
    have hd1 := next_drop hd
    rw [stmtP_eq, peek_drop hd, if_neg (by simp [pk, tW, wPut, wReturn]), if_pos (by rfl), peek_drop hd1, if_pos (by rfl)]
    rfl
  | ret1 e he =>
    intro n D hd ho
    simp only [tokM, Int.reduceEq, if_true, if_false, (L1 e).2, List.cons_append, List.nil_append, List.append_assoc] at hd ⊢
    have hd1 := next_drop hd
    have hd2 := pass_drop hd1
    have hp : ¬ pk (tokE' e ++ (tS [59] :: D)) = [59] := by
      rcases pk_expr he (tS [59] :: D) with g | g | g | g <;> rw [g] <;> decide
    rw [stmtP_eq, peek_drop hd, if_neg (by simp [pk, tW, wPut, wReturn]), if_pos (by rfl), peek_drop hd1, if_neg hp, expr_drop he hd1 (.inr (.inr (.inr rfl))), PR.bind_ok, must_drop hd2, PR.bind_ok]
    simp only [List.length_cons, List.length_append, List.length_nil]
    congr 1; omega
  | loop e t he ht ih =>
    intro n D hd ho
    simp only [tokM, Int.reduceEq, if_true, if_false, or_true, List.length_nil, (L1 e).2, List.cons_append, List.nil_append, List.append_assoc] at hd ⊢
    have hd1 := next_drop hd
    have hd2 : T.drop (n + 1 + (tokE' e).length + 2) = tS [123] :: (tokB t ++ (tS [125] :: D)) := by
      have := next_drop (pass_drop (next_drop hd1))
      rw [show n + 1 + (tokE' e).length + 2 = n + 1 + 1 + (tokE' e).length + 1 by omega]; exact this
    rw [stmtP_eq, peek_drop hd, if_neg (by simp [pk, tW, wPut, wWhile]), if_neg (by simp [pk, tW, wReturn, wWhile]), if_neg (by simp [pk, tW, wIf, wWhile]), if_pos (by rfl), round_drop he hd1, PR.bind_ok, body_drop ht ih hd2, PR.bind_ok]
    simp only [List.length_cons, List.length_append, List.length_nil]
    congr 1; omega
  | cond e t u he ht hu iht ihu =>
    intro n D hd ho
    simp only [tokM, Int.reduceEq, if_true, if_false, true_or, (L1 e).2, List.cons_append, List.nil_append, List.append_assoc] at hd ⊢
    have hd1 := next_drop hd
    have hd2 : T.drop (n + 1 + (tokE' e).length + 2) = tS [123] :: (tokB t ++ ((if u.length = 0 then [] else tS [125] :: tW wElse :: tS [123] :: tokB u) ++ (tS [125] :: D))) := by
      have := next_drop (pass_drop (next_drop hd1))
      rw [show n + 1 + (tokE' e).length + 2 = n + 1 + 1 + (tokE' e).length + 1 by omega]; exact this
    rw [stmtP_eq, peek_drop hd, if_neg (by simp [pk, tW, wPut, wIf]), if_neg (by simp [pk, tW, wReturn, wIf]), if_pos (by rfl), round_drop he hd1, PR.bind_ok]
    cases u with
    | nil =>
      simp only [List.length_nil, if_true, List.nil_append] at hd2 ⊢
      rw [body_drop ht iht hd2, PR.bind_ok]
      have hd3 : T.drop (n + 1 + (tokE' e).length + 2 + (tokB t).length + 2) = D := by
        have := next_drop (pass_drop (next_drop hd2))
        rw [show n + 1 + (tokE' e).length + 2 + (tokB t).length + 2 = n + 1 + (tokE' e).length + 2 + 1 + (tokB t).length + 1 by omega]; exact this
      rw [peek_drop hd3, if_neg ho]
      simp only [List.length_cons, List.length_append, List.length_nil]
      congr 1; omega
    | cons x u =>
      have hne : ¬ (x :: u).length = 0 := by simp
      simp only [hne, if_false, List.cons_append] at hd2 ⊢
      rw [body_drop ht iht hd2, PR.bind_ok]
      have hd3 : T.drop (n + 1 + (tokE' e).length + 2 + (tokB t).length + 2) = tW wElse :: tS [123] :: (tokB (x :: u) ++ (tS [125] :: D)) := by
        have := next_drop (pass_drop (next_drop hd2))
        rw [show n + 1 + (tokE' e).length + 2 + (tokB t).length + 2 = n + 1 + (tokE' e).length + 2 + 1 + (tokB t).length + 1 by omega]; exact this
      have hd4 := next_drop hd3
      rw [peek_drop hd3, if_pos (by rfl), body_drop hu ihu hd4, PR.bind_ok]
      simp only [List.length_cons, List.length_append, List.length_nil]
      congr 1; omega
/-! ### programs -/
theorem nm_drop : ∀ {l acc : List Str} {n : Nat} {D : List Tok}, T.drop n = tokCT l ++ D → pk D ≠ [44] → nmP T acc n = .ok (acc ++ l) (n + (tokCT l).length)
  | [], acc, n, D, hd, ho => by
    rw [tokCT, List.nil_append] at hd
    rw [nmP_eq, peek_drop hd, if_neg ho, tokCT, List.append_nil]; rfl
  | s :: l, acc, n, D, hd, ho => by
    simp only [tokCT, List.cons_append, List.nil_append] at hd ⊢
    have hd1 := next_drop hd
    have hd2 := next_drop hd1
    rw [nmP_eq, peek_drop hd, if_pos (by rfl), takeN hd1, PR.bind_ok, nm_drop hd2 ho]
    simp only [List.append_assoc, List.cons_append, List.nil_append, List.length_cons, tN]
    congr 1; omega
theorem names_drop {l : List Str} (hl : l ≠ []) {n : Nat} {D : List Tok} (hd : T.drop n = tokC l ++ D) (ho : pk D ≠ [44]) : namesP T n = .ok l (n + (tokC l).length) := by
  cases l with
  | nil => exact absurd rfl hl
  | cons s l =>
    simp only [tokC, List.cons_append, List.nil_append] at hd ⊢
    have hd1 := next_drop hd
    rw [namesP, takeN hd, PR.bind_ok, nm_drop hd1 ho]
    simp only [List.cons_append, List.nil_append, List.length_cons, tN]
    congr 1; omega
theorem pk_body {l : List Sm} (hr : ∀ s ∈ l, RM s) (D : List Tok) : pk (tokB l ++ (tS [125] :: D)) ≠ wVar := by
  cases l with
  | nil => rw [tokB]; simp [pk, tS, wVar]
  | cons x l => rw [tokB, List.append_assoc]; exact (pk_stmt (hr x (by simp)) _).2.2
theorem tokC_head {l : List Str} (D : List Tok) (hl : l ≠ []) : ∃ s D', tokC l ++ D = tN s :: D' := by
  cases l with
  | nil => exact absurd rfl hl
  | cons s l => exact ⟨s, _, rfl⟩
theorem fun_drop {f : Fu} (h : RF f) {n : Nat} {D : List Tok} (hd : T.drop n = tokF f ++ D) : funP T n = .ok f (n + (tokF f).length) := by
  obtain ⟨nm, ps, ls, w, b⟩ := f
  have hb := h.body
  simp only at hb
  simp only [tokF, List.cons_append, List.nil_append, List.append_assoc] at hd
  have hd1 := next_drop hd
  have hd2 := next_drop hd1
  have hd3 := next_drop hd2
  have hd4 := pass_drop hd3
  have hd5 := next_drop hd4
  have hps : (if kindI T (n + 1 + 1 + 1) = 1 then namesP T (n + 1 + 1 + 1) else .ok [] (n + 1 + 1 + 1) : PR (List Str)) = .ok ps (n + 1 + 1 + 1 + (tokC ps).length) := by
    cases ps with
    | nil =>
      simp only [tokC, List.nil_append] at hd3 ⊢
      rw [kind_drop hd3, if_neg (by simp [tS])]; rfl
    | cons p ps =>
      obtain ⟨s, D', e⟩ := tokC_head (l := p :: ps) (tS [41] :: ((if w = true then [tW wWord] else []) ++ tS [123] :: ((if ls.length = 0 then [] else tW wVar :: (tokC ls ++ [tS [59]])) ++ (tokB b ++ tS [125] :: D)))) (by simp)
      have hk : kindI T (n + 1 + 1 + 1) = 1 := by rw [e] at hd3; exact kind_drop hd3
      rw [if_pos hk, names_drop (by simp) hd3 (by simp [pk, tS])]
  have hloc : ∀ m, T.drop m = (if ls.length = 0 then [] else tW wVar :: (tokC ls ++ [tS [59]])) ++ (tokB b ++ tS [125] :: D) → locP T [] m = .ok ls (m + (if ls.length = 0 then [] else tW wVar :: (tokC ls ++ [tS [59]])).length) := by
    intro m hm
    cases ls with
    | nil =>
      simp only [List.length_nil, if_true, List.nil_append] at hm ⊢
      rw [locP_eq, peek_drop hm, if_neg (pk_body hb D)]; rfl
    | cons x ls =>
      have hne : ¬ (x :: ls).length = 0 := by simp
      simp only [hne, if_false, List.cons_append, List.append_assoc, List.nil_append] at hm ⊢
      have hm1 := next_drop hm
      have hm2 := pass_drop hm1
      have hm3 := next_drop hm2
      rw [locP_eq, peek_drop hm, if_pos (by rfl), names_drop (by simp) hm1 (by simp [pk, tS]), PR.bind_ok, must_drop hm2, PR.bind_ok, locP_eq, peek_drop hm3, if_neg (pk_body hb D)]
      simp only [List.length_cons, List.length_append, List.length_nil, List.nil_append]
      congr 1; omega
  unfold funP
  rw [mustW_drop hd, PR.bind_ok, takeN hd1, PR.bind_ok, must_drop hd2, PR.bind_ok, hps, PR.bind_ok, must_drop hd4, PR.bind_ok]
  simp only [tokF, List.length_cons, List.length_append, List.length_nil]
  cases w with
  | false =>
    simp only [Bool.false_eq_true, if_false, List.nil_append] at hd5 ⊢
    have hd6 := next_drop hd5
    have hd7 := pass_drop hd6
    rw [peek_drop hd5, if_neg (by simp [pk, tS, wWord]), must_drop hd5, PR.bind_ok, hloc _ hd6, PR.bind_ok, stmts_drop hb (fun s hs => stmt_all (hb s hs)) hd7, PR.bind_ok]
    simp only [List.nil_append, tN, pk, tS]
    congr 1
    split <;> simp only [List.length_cons, List.length_append, List.length_nil] <;> omega
  | true =>
    simp only [if_true, List.cons_append, List.nil_append] at hd5 ⊢
    have hd5' := next_drop hd5
    have hd6 := next_drop hd5'
    have hd7 := pass_drop hd6
    rw [peek_drop hd5, if_pos (by rfl), must_drop hd5', PR.bind_ok, hloc _ hd6, PR.bind_ok, stmts_drop hb (fun s hs => stmt_all (hb s hs)) hd7, PR.bind_ok]
    simp only [List.nil_append, tN, pk, tW]
    congr 1
    split <;> simp only [List.length_cons, List.length_append, List.length_nil] <;> omega
theorem head_arrs : ∀ {l : List Ar} {vs : List Str} {as' : List Ar} {n : Nat} {D : List Tok}, T.drop n = tokAs l ++ D → pk D ≠ wVar → pk D ≠ wArray → headP T vs as' n = .ok (vs, as' ++ l) (n + (tokAs l).length)
  | [], vs, as', n, D, hd, h1, h2 => by
    rw [tokAs, List.nil_append] at hd
    rw [headP_eq, peek_drop hd, if_neg h1, if_neg h2, tokAs, List.append_nil]; rfl
  | a :: l, vs, as', n, D, hd, h1, h2 => by
    simp only [tokAs, tokA, List.cons_append, List.nil_append] at hd ⊢
    have hd1 := next_drop hd
    have hd2 := next_drop hd1
    have hd3 := next_drop hd2
    have hd4 := next_drop hd3
    have hd5 := next_drop hd4
    have hd6 := next_drop hd5
    rw [headP_eq, peek_drop hd, if_neg (by simp [pk, tW, wVar, wArray]), if_pos (by rfl), takeN hd1, PR.bind_ok, must_drop hd2, PR.bind_ok, takeD hd3, PR.bind_ok, must_drop hd4, PR.bind_ok, must_drop hd5, PR.bind_ok,
      head_arrs hd6 h1 h2]
    simp only [List.append_assoc, List.cons_append, List.nil_append, List.length_cons, tN, tD]
    congr 1; omega
theorem head_drop {vs : List Str} {l : List Ar} {n : Nat} {D : List Tok} (hd : T.drop n = (if vs.length = 0 then [] else [tW wVar] ++ (tokC vs ++ [tS [59]])) ++ (tokAs l ++ D)) (h1 : pk D ≠ wVar) (h2 : pk D ≠ wArray) :
    headP T [] [] n = .ok (vs, l) (n + ((if vs.length = 0 then [] else [tW wVar] ++ (tokC vs ++ [tS [59]])).length + (tokAs l).length)) := by
  cases vs with
  | nil =>
    simp only [List.length_nil, if_true, List.nil_append] at hd ⊢
    rw [head_arrs hd h1 h2]
    simp only [List.nil_append, Nat.zero_add]
  | cons v vs =>
    have hne : ¬ (v :: vs).length = 0 := by simp
    simp only [hne, if_false, List.cons_append, List.append_assoc, List.nil_append] at hd ⊢
    have hm1 := next_drop hd
    have hm2 := pass_drop hm1
    have hm3 := next_drop hm2
    rw [headP_eq, peek_drop hd, if_pos (by rfl), names_drop (by simp) hm1 (by simp [pk, tS]), PR.bind_ok, must_drop hm2, PR.bind_ok, head_arrs hm3 h1 h2]
    simp only [List.nil_append, List.length_cons, List.length_append, List.length_nil]
    congr 1; omega
theorem tokF_ne (f : Fu) (D : List Tok) : ∃ D', tokF f ++ D = tW wFunc :: D' := ⟨_, rfl⟩
theorem funs_drop : ∀ {l : List Fu} {acc : List Fu} {n : Nat}, (∀ f ∈ l, RF f) → T.drop n = tokFs l → n ≤ T.length → funsP T acc n = .ok (acc ++ l) (n + (tokFs l).length)
  | [], acc, n, h, hd, hn => by
    rw [tokFs] at hd ⊢
    have : T.length ≤ n := List.drop_eq_nil_iff.1 hd
    rw [funsP_eq, if_neg (by omega), List.append_nil]; rfl
  | f :: l, acc, n, h, hd, hn => by
    rw [tokFs] at hd ⊢
    have hlt : n < T.length := by
      rcases Nat.lt_or_ge n T.length with hl | hl
      · exact hl
      · rw [List.drop_eq_nil_of_le hl] at hd
        obtain ⟨D', e⟩ := tokF_ne f (tokFs l)
        rw [e] at hd; cases hd
    have hf := fun_drop (h f (List.mem_cons_self)) hd
    have hfar := funP_far hf
    rw [funsP_eq, if_pos hlt, hf, PR.bind_ok, funs_drop (fun x hx => h x (List.mem_cons_of_mem _ hx)) (pass_drop hd) (by omega)]
    simp only [List.append_assoc, List.cons_append, List.nil_append, List.length_append]
    congr 1; omega
theorem prog_drop {p : Pg} (h : RP p) : progP (tokP p) 0 = .ok p (tokP p).length := by
  obtain ⟨vs, l, fs⟩ := p
  have hne := h.ne
  simp only at hne
  cases fs with
  | nil => exact absurd rfl hne
  | cons f fs =>
    have hd : (tokP ⟨vs, l, f :: fs⟩).drop 0 = (if vs.length = 0 then [] else [tW wVar] ++ (tokC vs ++ [tS [59]])) ++ (tokAs l ++ (tokF f ++ tokFs fs)) := by
      rw [List.drop_zero, tokP, tokFs]
    have hl : (tokP ⟨vs, l, f :: fs⟩).length = (if vs.length = 0 then [] else [tW wVar] ++ (tokC vs ++ [tS [59]])).length + (tokAs l).length + (tokF f).length + (tokFs fs).length := by
      have := congrArg List.length hd
      rw [List.drop_zero] at this
      rw [this]; simp only [List.length_append]; omega
    generalize tokP ⟨vs, l, f :: fs⟩ = T at *
    have hp : pk (tokF f ++ tokFs fs) = wFunc := rfl
    have hd1 : T.drop (0 + ((if vs.length = 0 then [] else [tW wVar] ++ (tokC vs ++ [tS [59]])).length + (tokAs l).length)) = tokF f ++ tokFs fs := by
      rw [← List.append_assoc] at hd
      have := pass_drop hd
      rwa [List.length_append] at this
    have hd2 := pass_drop hd1
    unfold progP
    rw [head_drop hd (by rw [hp]; decide) (by rw [hp]; decide), PR.bind_ok, fun_drop (h.funs f (List.mem_cons_self)) hd1, PR.bind_ok, funs_drop (fun x hx => h.funs x (List.mem_cons_of_mem _ hx)) hd2 (by omega), PR.bind_ok]
    refine congrArg (PR.ok (⟨vs, l, f :: fs⟩ : Pg)) ?_
    omega
theorem src_back {p : Pg} (ho : p.ok) (h : rightP p = true) (hl : (prP p).length ≤ 20000) : srcP (prP p) = (p, 0, 0) := by
  obtain ⟨T, h1, h2⟩ := lex_prog ho h hl
  have h3 := prog_drop (rp_of ho h)
  rw [← h2, progP_z] at h3
  unfold srcP
  rw [h1]
  simp only [h3, List.length_map, Nat.lt_irrefl, if_false, h, if_true]
end
end Go.Proofs.YtgcncdjnipfolaaDoor
