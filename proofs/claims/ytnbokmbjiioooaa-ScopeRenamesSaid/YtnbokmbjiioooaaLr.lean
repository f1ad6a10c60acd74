/- Chapter 16: what another name of a local does, in plain Lean. Chapter 16: ScopeRenames's contract. -/
import Derived.Test.YtnbokmbjiioooaaLu
import Derived.Test.YtnbokmbjiioooaaLa
set_option linter.unusedSimpArgs false
set_option linter.unusedVariables false
namespace Go.Al
theorem placeN_set : ∀ (l : List Str) (j : Nat) (x y t : Str), l[j]? = some x → t ≠ x → t ≠ y → placeN (l.set j y) t = placeN l t
  | [], j, x, y, t, h, _, _ => by simp at h
  | a :: l, 0, x, y, t, h, h1, h2 => by
    simp at h
    subst h
    simp only [List.set_cons_zero, placeN, if_neg (Ne.symm h1), if_neg (Ne.symm h2)]
  | a :: l, j + 1, x, y, t, h, h1, h2 => by
    simp only [List.set_cons_succ, placeN]
    rw [placeN_set l j x y t (by simpa using h) h1 h2]
theorem placeN_set_self : ∀ (l : List Str) (j : Nat) (y : Str), j < l.length → y ∉ l → placeN (l.set j y) y = some j
  | [], j, y, h, _ => by simp at h
  | a :: l, 0, y, h, hn => by simp [placeN]
  | a :: l, j + 1, y, h, hn => by
    simp only [List.mem_cons, not_or] at hn
    simp only [List.set_cons_succ, placeN, if_neg (Ne.symm hn.1)]
    rw [placeN_set_self l j y (by simpa using h) hn.2]
    rfl
theorem nodup_set : ∀ (l : List Str) (j : Nat) (y : Str), l.Nodup → y ∉ l → (l.set j y).Nodup
  | [], _, _, _, _ => by simp
  | a :: l, 0, y, h, hn => by
    simp only [List.mem_cons, not_or] at hn
    rw [List.nodup_cons] at h
    rw [List.set_cons_zero, List.nodup_cons]
    exact ⟨hn.2, h.2⟩
  | a :: l, j + 1, y, h, hn => by
    simp only [List.mem_cons, not_or] at hn
    rw [List.nodup_cons] at h
    rw [List.set_cons_succ, List.nodup_cons]
    refine ⟨fun hm => ?_, nodup_set l j y h.2 hn.2⟩
    rcases List.mem_or_eq_of_mem_set hm with hm | hm
    · exact h.1 hm
    · exact hn.1 hm.symm
theorem placeN_nodup {l : List Str} (hn : l.Nodup) {j : Nat} {x : Str} (h : l[j]? = some x) : placeN l x = some j := by
  obtain ⟨hj, e⟩ := List.getElem?_eq_some_iff.1 h
  rw [← e]
  exact (nodup_place l).1 hn j hj
/-- a use with another name -/
def renU (a b : Str) (u : Us) : Us := if u.kind = 1 ∧ u.name = a then ⟨b, u.kind, u.num⟩ else u
theorem useX_ren (a b : Str) (e : Ex) : useX (renX a b e) = (useX e).map (renU a b) := by
  obtain ⟨k, o, n, s, l⟩ := e
  simp only [renX, useX, Ex.kind, Ex.name, Ex.kids]
  by_cases h2 : k = 2
  · subst h2
    by_cases hs : s = a <;> simp [renU, hs]
  · by_cases h3 : k = 3
    · subst h3; simp [renU]
    · by_cases h4 : k = 4
      · subst h4; simp [renU, renE_map]
      · simp [h2, h3, h4]
theorem usesE_ren (a b : Str) (n : Nat) : ∀ l : List Ex, szE l ≤ n → usesE (l.map (renX a b)) = (usesE l).map (renU a b) := by
  induction n using Nat.strongRecOn with
  | _ n ih =>
    intro l hn
    cases l with
    | nil => rw [List.map_nil, usesE, List.map_nil]
    | cons e l =>
      have hs := e.sz_eq
      rw [szE] at hn
      rw [List.map_cons, usesE_cons, usesE_cons, List.map_append, List.map_append, useX_ren, ih (szE l) (by omega) l (Nat.le_refl _)]
      rw [show (renX a b e).kids = e.kids.map (renX a b) by cases e; simp only [renX, Ex.kids, renE_map], ih (szE e.kids) (by omega) e.kids (Nat.le_refl _)]
theorem useS_ren (a b : Str) (e : Sm) : useS (renM a b e) = (useS e).map (renU a b) := by
  obtain ⟨k, s, l, t, u⟩ := e
  simp only [renM, useS, Sm.kind, Sm.name, Sm.es]
  by_cases h2 : k = 1
  · subst h2
    by_cases hs : s = a <;> simp [renU, hs]
  · by_cases h3 : k = 2
    · subst h3; simp [renU]
    · by_cases h4 : k = 6
      · subst h4; simp [renU]
      · simp [h2, h3, h4]
theorem usesS_ren (a b : Str) (n : Nat) : ∀ l : List Sm, szS l ≤ n → usesS (l.map (renM a b)) = (usesS l).map (renU a b) := by
  induction n using Nat.strongRecOn with
  | _ n ih =>
    intro l hn
    cases l with
    | nil => rw [List.map_nil, usesS, List.map_nil]
    | cons e l =>
      have hs := e.sz_eq
      rw [szS] at hn
      rw [List.map_cons, usesS_cons, usesS_cons]
      simp only [List.map_append]
      rw [useS_ren, ih (szS l) (by omega) l (Nat.le_refl _)]
      rw [show (renM a b e).es = e.es.map (renX a b) by cases e; simp only [renM, Sm.es], show (renM a b e).thn = e.thn.map (renM a b) by cases e; simp only [renM, Sm.thn, renS_map], show (renM a b e).els = e.els.map (renM a b) by cases e; simp only [renM, Sm.els, renS_map]]
      rw [usesE_ren a b _ e.es (Nat.le_refl _), ih (szS e.thn) (by omega) e.thn (Nat.le_refl _), ih (szS e.els) (by omega) e.els (Nat.le_refl _)]
theorem szE_ren (a b : Str) (n : Nat) : ∀ l : List Ex, szE l ≤ n → szE (l.map (renX a b)) = szE l := by
  induction n using Nat.strongRecOn with
  | _ n ih =>
    intro l hn
    cases l with
    | nil => rfl
    | cons e l =>
      have hs := e.sz_eq
      rw [szE] at hn
      rw [List.map_cons, szE, szE, ih (szE l) (by omega) l (Nat.le_refl _), (renX a b e).sz_eq, hs]
      rw [show (renX a b e).kids = e.kids.map (renX a b) by cases e; simp only [renX, Ex.kids, renE_map], ih (szE e.kids) (by omega) e.kids (Nat.le_refl _)]
theorem szS_ren (a b : Str) (n : Nat) : ∀ l : List Sm, szS l ≤ n → szS (l.map (renM a b)) = szS l := by
  induction n using Nat.strongRecOn with
  | _ n ih =>
    intro l hn
    cases l with
    | nil => rfl
    | cons e l =>
      have hs := e.sz_eq
      rw [szS] at hn
      rw [List.map_cons, szS, szS, ih (szS l) (by omega) l (Nat.le_refl _), (renM a b e).sz_eq, hs]
      rw [show (renM a b e).es = e.es.map (renX a b) by cases e; simp only [renM, Sm.es], show (renM a b e).thn = e.thn.map (renM a b) by cases e; simp only [renM, Sm.thn, renS_map], show (renM a b e).els = e.els.map (renM a b) by cases e; simp only [renM, Sm.els, renS_map]]
      rw [szE_ren a b _ e.es (Nat.le_refl _), ih (szS e.thn) (by omega) e.thn (Nat.le_refl _), ih (szS e.els) (by omega) e.els (Nat.le_refl _)]
theorem renX_ok {a b : Str} (hb : fitL b) {e : Ex} (h : e.ok) : (renX a b e).ok := by
  induction h with
  | mk k o n s l hk ho hn hs hl h ih =>
    simp only [renX]
    refine .mk _ _ _ _ _ hk ho hn (by split <;> assumption) (by rw [renE_map]; simpa [fitL] using hl) fun e he => ?_
    rw [renE_map] at he
    obtain ⟨x, hx, rfl⟩ := List.mem_map.1 he
    exact ih x hx
theorem renM_ok {a b : Str} (hb : fitL b) {e : Sm} (h : e.ok) : (renM a b e).ok := by
  induction h with
  | mk k s l t u hk hs hl ht hta hu hua iht ihu =>
    simp only [renM]
    refine .mk _ _ _ _ _ hk (by split <;> assumption) ⟨by have := hl.fit; simpa [fitL] using this, fun e he => ?_⟩ (by rw [renS_map]; simpa [fitL] using ht) (fun e he => ?_) (by rw [renS_map]; simpa [fitL] using hu) (fun e he => ?_)
    · obtain ⟨x, hx, rfl⟩ := List.mem_map.1 he
      exact renX_ok hb (hl.all x hx)
    · rw [renS_map] at he
      obtain ⟨x, hx, rfl⟩ := List.mem_map.1 he
      exact iht x hx
    · rw [renS_map] at he
      obtain ⟨x, hx, rfl⟩ := List.mem_map.1 he
      exact ihu x hx
/-- function g with another name of its local k -/
def renG (g : Fu) (k : Nat) (a b : Str) : Fu := ⟨g.name, g.params, g.locs.set k b, g.word, g.body.map (renM a b)⟩
def renP (p : Pg) (i : Nat) (g : Fu) (k : Nat) (a b : Str) : Pg := ⟨p.vars, p.arrs, p.funs.set i (renG g k a b)⟩
theorem numU_eq (q : Pg) (j : Nat) (u : Us) : numU q j u = (!decide (u.kind = 4) || (match (q.funs[(findF q j u.name).2.toNat]?).map (fun (f : Fu) => (f.params.length : Nat)) with | some n => decide ((n : Int) = u.num) | none => false)) := by
  unfold numU
  cases q.funs[(findF q j u.name).2.toNat]? <;> rfl
theorem ren_get {p : Pg} {i k : Nat} {g : Fu} {a b : Str} (hg : p.funs[i]? = some g) (hk : g.locs[k]? = some a) (hb : b ∉ allN p) (hn : namesB p = true) (j : Nat) : (renP p i g k a b).funs[j]? = if j = i then some (renG g k a b) else p.funs[j]? := by
  show (p.funs.set i _)[j]? = _
  rw [List.getElem?_set]
  by_cases e : i = j
  · subst e
    rw [if_pos rfl, if_pos rfl, if_pos (List.getElem?_eq_some_iff.1 hg).1]
  · rw [if_neg e, if_neg (Ne.symm e)]
theorem ren_findG {p : Pg} {i k : Nat} {g : Fu} {a b : Str} (hg : p.funs[i]? = some g) (hk : g.locs[k]? = some a) (hb : b ∉ allN p) (hn : namesB p = true) (t : Str) : findG (renP p i g k a b) t = findG p t := by
  rw [findG_eq, findG_eq]
  show findL p.vars (p.arrs.map Ar.name) ((p.funs.set i _).map Fu.name) t = _
  rw [set_names p.funs i g (renG g k a b) hg rfl]
theorem ren_glob {p : Pg} {i k : Nat} {g : Fu} {a b : Str} (hg : p.funs[i]? = some g) (hk : g.locs[k]? = some a) (hb : b ∉ allN p) (hn : namesB p = true) : globL (renP p i g k a b) = globL p := by
  show p.vars ++ p.arrs.map Ar.name ++ (p.funs.set i _).map Fu.name = _
  rw [set_names p.funs i g (renG g k a b) hg rfl]
  rfl
theorem ren_names {p : Pg} {i k : Nat} {g : Fu} {a b : Str} (hg : p.funs[i]? = some g) (hk : g.locs[k]? = some a) (hb : b ∉ allN p) (hn : namesB p = true) : namesL (renG g k a b) = (namesL g).set (g.params.length + k) b := by
  show g.params ++ g.locs.set k b = (g.params ++ g.locs).set (g.params.length + k) b
  rw [List.set_append_right _ _ (by omega)]
  congr 2
  omega
theorem ren_bn {p : Pg} {i k : Nat} {g : Fu} {a b : Str} (hg : p.funs[i]? = some g) (hk : g.locs[k]? = some a) (hb : b ∉ allN p) (hn : namesB p = true) : b ∉ namesL g := fun c => hb (by
  simp only [allN, List.mem_append, List.mem_flatMap]
  exact .inr ⟨g, List.mem_of_getElem? hg, by simp only [frF, List.mem_append]; exact .inl c⟩)
theorem ren_nd {p : Pg} {i k : Nat} {g : Fu} {a b : Str} (hg : p.funs[i]? = some g) (hk : g.locs[k]? = some a) (hb : b ∉ allN p) (hn : namesB p = true) : (namesL g).Nodup := by
  simp only [namesB, Bool.and_eq_true] at hn
  exact (namesFrom_get p _ 0 hn.2 i g hg).1
theorem ren_at {p : Pg} {i k : Nat} {g : Fu} {a b : Str} (hg : p.funs[i]? = some g) (hk : g.locs[k]? = some a) (hb : b ∉ allN p) (hn : namesB p = true) : (namesL g)[g.params.length + k]? = some a := by
  show (g.params ++ g.locs)[g.params.length + k]? = some a
  rw [List.getElem?_append_right (by omega)]
  rw [show g.params.length + k - g.params.length = k by omega]
  exact hk
theorem ren_find {p : Pg} {i k : Nat} {g : Fu} {a b : Str} (hg : p.funs[i]? = some g) (hk : g.locs[k]? = some a) (hb : b ∉ allN p) (hn : namesB p = true) (j : Nat) (t : Str) (h : j = i → t ≠ a ∧ t ≠ b) : findF (renP p i g k a b) j t = findF p j t := by
  unfold findF
  rw [ren_get hg hk hb hn, ren_findG hg hk hb hn]
  by_cases e : j = i
  · subst e
    obtain ⟨h1, h2⟩ := h rfl
    rw [if_pos rfl, hg]
    simp only [Option.bind_some]
    rw [ren_names hg hk hb hn, placeN_set _ _ a b t (ren_at hg hk hb hn) h1 h2]
  · rw [if_neg e]
theorem ren_find_b {p : Pg} {i k : Nat} {g : Fu} {a b : Str} (hg : p.funs[i]? = some g) (hk : g.locs[k]? = some a) (hb : b ∉ allN p) (hn : namesB p = true) : findF (renP p i g k a b) i b = (1, ((g.params.length + k : Nat) : Int)) := by
  unfold findF
  rw [ren_get hg hk hb hn, if_pos rfl]
  simp only [Option.bind_some]
  rw [ren_names hg hk hb hn, placeN_set_self _ _ b (List.getElem?_eq_some_iff.1 (ren_at hg hk hb hn)).1 (ren_bn hg hk hb hn)]
theorem ren_find_a {p : Pg} {i k : Nat} {g : Fu} {a b : Str} (hg : p.funs[i]? = some g) (hk : g.locs[k]? = some a) (hb : b ∉ allN p) (hn : namesB p = true) : findF p i a = (1, ((g.params.length + k : Nat) : Int)) := by
  unfold findF
  rw [hg]
  simp only [Option.bind_some]
  rw [placeN_nodup (ren_nd hg hk hb hn) (ren_at hg hk hb hn)]
theorem ren_use {p : Pg} {i k : Nat} {g : Fu} {a b : Str} (hg : p.funs[i]? = some g) (hk : g.locs[k]? = some a) (hb : b ∉ allN p) (hn : namesB p = true) (u : Us) (hu : u ∈ usesS g.body) : (u.kind = 1 ∧ u.name = a ∧ renU a b u = ⟨b, 1, u.num⟩) ∨ (u.name ≠ a ∧ u.name ≠ b ∧ renU a b u = u) := by
  have hnb : u.name ≠ b := fun e => hb (by rw [← e]; exact use_allN p hg hu)
  have hok : okUse p i u = true := by
    have h := hn
    simp only [namesB, Bool.and_eq_true] at h
    have h2 := (namesFrom_get p _ 0 h.2 i g hg).2
    rw [Nat.zero_add] at h2
    exact List.all_eq_true.1 h2 u hu
  have hfa := ren_find_a hg hk hb hn
  by_cases e : u.name = a
  · left
    have hk1 : u.kind = 1 := by
      rcases Go.Proofs.Ytnbokmbjiioooaa.usesS_kind _ g.body (Nat.le_refl _) u hu with h | h | h
      · exact h
      · simp [okUse, e, hfa, h] at hok
      · simp [okUse, e, hfa, h] at hok
    exact ⟨hk1, e, by simp [renU, hk1, e]⟩
  · right
    exact ⟨e, hnb, by simp [renU, e]⟩
theorem ren_all {p : Pg} {i k : Nat} {g : Fu} {a b : Str} (hg : p.funs[i]? = some g) (hk : g.locs[k]? = some a) (hb : b ∉ allN p) (hn : namesB p = true) (f f' : Nat → Us → Bool) (h1 : ∀ j u, (j = i → u.name ≠ a ∧ u.name ≠ b) → f' j u = f j u) (h2 : ∀ n, f' i ⟨b, 1, n⟩ = f i ⟨a, 1, n⟩) (hany : Bool) (j : Nat) (f1 f2 : Fu) (e1 : p.funs[j]? = some f1) (e2 : (renP p i g k a b).funs[j]? = some f2) :
    (usesS f1.body).all (f j) = (usesS f2.body).all (f' j) ∧ (usesS f1.body).any (f j) = (usesS f2.body).any (f' j) := by
  rw [ren_get hg hk hb hn] at e2
  by_cases e : j = i
  · subst e
    rw [if_pos rfl] at e2
    rw [hg] at e1
    cases e1; cases e2
    have key : ∀ u ∈ usesS g.body, f' j (renU a b u) = f j u := fun u hu => by
      rcases ren_use hg hk hb hn u hu with ⟨q1, q2, q3⟩ | ⟨q1, q2, q3⟩
      · rw [q3, h2, ← q2, ← q1]
      · rw [q3]; exact h1 j u fun _ => ⟨q1, q2⟩
    have hu : usesS (renG g k a b).body = (usesS g.body).map (renU a b) := usesS_ren a b _ g.body (Nat.le_refl _)
    rw [hu, List.all_map, List.any_map]
    refine ⟨all_congr fun u hu => (key u hu).symm, ?_⟩
    rw [Bool.eq_iff_iff, List.any_eq_true, List.any_eq_true]
    exact ⟨fun ⟨u, h3, h4⟩ => ⟨u, h3, (key u h3).trans h4⟩, fun ⟨u, h3, h4⟩ => ⟨u, h3, (key u h3).symm.trans h4⟩⟩
  · rw [if_neg e, e1] at e2
    cases e2
    have key : ∀ u ∈ usesS f1.body, f' j u = f j u := fun u _ => h1 j u fun c => absurd c e
    refine ⟨all_congr fun u hu => (key u hu).symm, ?_⟩
    rw [Bool.eq_iff_iff, List.any_eq_true, List.any_eq_true]
    exact ⟨fun ⟨u, h3, h4⟩ => ⟨u, h3, (key u h3).trans h4⟩, fun ⟨u, h3, h4⟩ => ⟨u, h3, (key u h3).symm.trans h4⟩⟩
theorem ren_params {p : Pg} {i k : Nat} {g : Fu} {a b : Str} (hg : p.funs[i]? = some g) (hk : g.locs[k]? = some a) (hb : b ∉ allN p) (hn : namesB p = true) (n : Nat) : ((renP p i g k a b).funs[n]?).map (fun f => f.params.length) = (p.funs[n]?).map fun f => f.params.length := by
  rw [ren_get hg hk hb hn]
  by_cases e : n = i
  · subst e; rw [if_pos rfl, hg]; rfl
  · rw [if_neg e]
theorem ren_len {p : Pg} {i k : Nat} {g : Fu} {a b : Str} (hg : p.funs[i]? = some g) (hk : g.locs[k]? = some a) (hb : b ∉ allN p) (hn : namesB p = true) : (renP p i g k a b).funs.length = p.funs.length := by
  show (p.funs.set i _).length = _
  rw [List.length_set]
theorem ren_okUse {p : Pg} {i k : Nat} {g : Fu} {a b : Str} (hg : p.funs[i]? = some g) (hk : g.locs[k]? = some a) (hb : b ∉ allN p) (hn : namesB p = true) (j : Nat) (u : Us) (h : j = i → u.name ≠ a ∧ u.name ≠ b) : okUse (renP p i g k a b) j u = okUse p j u := by
  simp only [okUse, ren_find hg hk hb hn j u.name h]
theorem ren_check {p : Pg} {i k : Nat} {g : Fu} {a b : Str} (hg : p.funs[i]? = some g) (hk : g.locs[k]? = some a) (hb : b ∉ allN p) (hn : namesB p = true) : checkI (renP p i g k a b) = checkI p := by
  have fa := ren_find_a hg hk hb hn
  have fb := ren_find_b hg hk hb hn
  refine check_same _ _ ?_ ?_
  · simp only [namesB, ren_glob hg hk hb hn]
    congr 1
    refine (namesFrom_congr p _ _ _ 0 (ren_len hg hk hb hn).symm fun j f1 f2 e1 e2 => ?_).symm
    rw [Nat.zero_add]
    refine ⟨?_, (ren_all hg hk hb hn (okUse p) (okUse (renP p i g k a b)) (fun j u h => ren_okUse hg hk hb hn j u h) (fun n => by simp [okUse, fa, fb]) true j f1 f2 e1 e2).1⟩
    rw [ren_get hg hk hb hn] at e2
    by_cases e : j = i
    · subst e
      rw [if_pos rfl] at e2
      rw [hg] at e1
      cases e1; cases e2
      rw [decide_eq_true (ren_nd hg hk hb hn), ren_names hg hk hb hn, decide_eq_true (nodup_set _ _ _ (ren_nd hg hk hb hn) (ren_bn hg hk hb hn))]
    · rw [if_neg e, e1] at e2
      cases e2; rfl
  · simp only [numsB]
    congr 1
    · refine (numsFrom_congr p _ _ _ 0 (ren_len hg hk hb hn).symm fun j f1 f2 e1 e2 => ?_).symm
      rw [Nat.zero_add]
      refine (ren_all hg hk hb hn (numU p) (numU (renP p i g k a b)) (fun j u h => ?_) (fun n => by simp [numU]) true j f1 f2 e1 e2).1
      rw [numU_eq, numU_eq, ren_find hg hk hb hn j u.name h, ren_params hg hk hb hn]
    · unfold lastB
      rw [ren_len hg hk hb hn, ren_get hg hk hb hn]
      by_cases e : p.funs.length - 1 = i
      · rw [if_pos e, e, hg]; rfl
      · rw [if_neg e]
theorem ren_calls {p : Pg} {i k : Nat} {g : Fu} {a b : Str} (hg : p.funs[i]? = some g) (hk : g.locs[k]? = some a) (hb : b ∉ allN p) (hn : namesB p = true) : callsP (renP p i g k a b) = callsP p := by
  have fa := ren_find_a hg hk hb hn
  have fb := ren_find_b hg hk hb hn
  refine List.ext_getElem? fun j => ?_
  unfold callsP
  rw [Go.Proofs.Ytnbokmbjiioooaa.callsFrom_get, Go.Proofs.Ytnbokmbjiioooaa.callsFrom_get, Nat.zero_add]
  cases e1 : p.funs[j]? with
  | none =>
    have : (renP p i g k a b).funs[j]? = none := by
      rw [List.getElem?_eq_none_iff] at e1 ⊢
      rw [ren_len hg hk hb hn]; exact e1
    rw [this]; rfl
  | some f1 =>
    obtain ⟨f2, e2⟩ : ∃ f2, (renP p i g k a b).funs[j]? = some f2 := by
      have hl := (List.getElem?_eq_some_iff.1 e1).1
      exact ⟨_, List.getElem?_eq_getElem (by rw [ren_len hg hk hb hn]; exact hl)⟩
    rw [e2]
    simp only [Option.map_some, callsRow, ren_len hg hk hb hn]
    congr 2
    refine List.filter_congr fun n _ => ?_
    refine ((ren_all hg hk hb hn (fun j u => isCall p j n u) (fun j u => isCall (renP p i g k a b) j n u) (fun j u h => ?_) (fun m => ?_) true j f1 f2 e1 e2).2).symm
    · simp only [isCall, ren_find hg hk hb hn j u.name h]
    · simp [isCall]
theorem renP_few {p : Pg} (h : p.small) {i k : Nat} {g : Fu} (hg : p.funs[i]? = some g) {a b : Str} (hbf : fitL b) : (renP p i g k a b).few := by
  have hgm := List.mem_of_getElem? hg
  have hgf := h.fs g hgm
  have hgo := h.ok.funs g hgm
  refine ⟨⟨h.ok.vars, h.ok.afit, h.ok.arrs, ?_, fun f hf => ?_⟩, h.few.v, h.few.a, ?_, fun f hf => ?_⟩
  · have := h.ok.ffit
    simp only [fitL] at this ⊢
    show (p.funs.set i _).length ≤ _
    rw [List.length_set]; exact this
  · rcases List.mem_or_eq_of_mem_set hf with hf | rfl
    · exact h.ok.funs f hf
    · refine ⟨hgo.name, hgo.params, ⟨?_, fun s hs => ?_⟩, ⟨?_, fun e he => ?_⟩⟩
      · have := hgo.locs.fit
        simp only [fitL] at this ⊢
        show (g.locs.set k b).length ≤ _
        rw [List.length_set]; exact this
      · rcases List.mem_or_eq_of_mem_set hs with hs | rfl
        · exact hgo.locs.all s hs
        · exact hbf
      · have := hgo.body.fit
        simp only [fitL] at this ⊢
        show (g.body.map _).length ≤ _
        rw [List.length_map]; exact this
      · obtain ⟨x, hx, rfl⟩ := List.mem_map.1 he
        exact renM_ok hbf (hgo.body.all x hx)
  · show (p.funs.set i _).length ≤ _
    rw [List.length_set]; exact h.few.f
  · rcases List.mem_or_eq_of_mem_set hf with hf | rfl
    · exact h.few.fs f hf
    · refine ⟨by simp only [renG]; omega, by simp only [renG, List.length_set]; omega, ?_⟩
      show szS (g.body.map _) ≤ _
      rw [szS_ren a b _ g.body (Nat.le_refl _)]; omega
theorem renP_av (p : Pg) (i k : Nat) (g : Fu) (a b : Str) : (renP p i g k a b).av = .agg [.isl 1 (p.vars.map strRow), .isl 2 (p.arrs.map Ar.row), .isl 5 ((p.funs.map Fu.row).set i [.str g.name, .isl 1 (g.params.map strRow), .isl 1 ((g.locs.map strRow).set k [.str b]), .bool g.word, .isl 5 ((g.body.map (renM a b)).map Sm.row)])] := by
  simp only [Pg.av, Pg.row, renP, List.map_set, Fu.row, renG]
  rfl
end Go.Al

namespace Go.Proofs.Ytnbokmbjiioooaa
open Go.Al
theorem ScopeRenames_con (p : Pg) (hp : p.ok) (w1 : Int) (hw1 : 0 ≤ w1 ∧ w1 ≤ 255) (w2 : Int) (hw2 : 0 ≤ w2 ∧ w2 ≤ 255) : PCon env 8 [p.av, .int .u8 w1, .int .u8 w2] (.bool true) := by
  have hfew := few_con p hp
  have hall := few16_small p hp
  have hav : p.av = .agg p.row := rfl
  have hrow : p.row = [.isl 1 (p.vars.map strRow), .isl 2 (p.arrs.map Ar.row), .isl 5 (p.funs.map Fu.row)] := rfl
  rw [hav, hrow] at hfew ⊢
  cases hc : few16 p with
  | false =>
    rw [hc] at hfew
    refine con_of 111 [.tmp 6] Try.func8 rfl rfl rfl rfl ?_
    refine awp_seq_k fun K hK => ?_
    refine awp_region rfl ?_
    simp only [RR, seval]
    refine awpN_intro fun b3 hn3 => ?_
    simp only [RR, seval]
    refine hK _ _ ?_; clear hK K
    refine awp_seq ?_
    refine awp_seq_k fun K hK => ?_
    refine awp_region rfl ?_
    simp only [RR, seval]
    refine awpC_pure' (alive_con) ?_
    simp only [RR, seval]
    refine hK _ _ ?_; clear hK K
    refine awp_if false rfl (fun hc => by cases hc) (fun _ => ?_)
    refine awp_skip ?_; try simp only [RR]
    refine awp_seq ?_
    refine awp_seq_k fun K hK => ?_
    refine awp_region rfl ?_
    simp only [RR, seval]
    refine awpC_pure' (hfew) ?_
    simp only [RR, seval]
    refine hK _ _ ?_; clear hK K
    refine awp_if true rfl (fun _ => ?_) (fun hc => by cases hc)
    refine awp_seq_k fun K hK => ?_
    refine awp_region rfl ?_
    simp only [RR, seval]
    refine hK _ _ ?_; clear hK K
    refine awp_ret ?_; simp only [bodyQ, aresult, ares, RR, seval]
    refine Gives.pure ?_
    rfl
  | true =>
    rw [hc] at hfew
    obtain ⟨hs, h1, hlen⟩ := hall hc
    have hf := hs.few
    have c1 := Check_con p hf h1
    rw [hav, hrow] at c1
    cases h0 : decide (checkI p = 4) with
    | true =>
      refine con_of 111 [.tmp 6] Try.func8 rfl rfl rfl rfl ?_
      refine awp_seq_k fun K hK => ?_
      refine awp_region rfl ?_
      simp only [h0, RR, seval]
      refine awpN_intro fun b3 hn3 => ?_
      simp only [h0, RR, seval]
      refine hK _ _ ?_; clear hK K
      refine awp_seq ?_
      refine awp_seq_k fun K hK => ?_
      refine awp_region rfl ?_
      simp only [h0, RR, seval]
      refine awpC_pure' (alive_con) ?_
      simp only [h0, RR, seval]
      refine hK _ _ ?_; clear hK K
      refine awp_if false rfl (fun hc => by cases hc) (fun _ => ?_)
      refine awp_skip ?_; try simp only [RR]
      refine awp_seq ?_
      refine awp_seq_k fun K hK => ?_
      refine awp_region rfl ?_
      simp only [h0, RR, seval]
      refine awpC_pure' (hfew) ?_
      simp only [h0, RR, seval]
      refine awpC_pure' (c1) ?_
      simp only [h0, RR, seval]
      refine hK _ _ ?_; clear hK K
      refine awp_if true rfl (fun _ => ?_) (fun hc => by cases hc)
      refine awp_seq_k fun K hK => ?_
      refine awp_region rfl ?_
      simp only [h0, RR, seval]
      refine hK _ _ ?_; clear hK K
      refine awp_ret ?_; simp only [bodyQ, aresult, ares, h0, RR, seval]
      refine Gives.pure ?_
      rfl
    | false =>
      have hn := check_names p (of_decide_eq_false h0)
      obtain ⟨n, hn1, hn2, hF⟩ := Fresh_con p hf
      have hql : fitL (qn n) := by
        have := digs_len n
        simp only [fitL, qn, List.length_cons]; omega
      obtain ⟨m1, hm1⟩ := Int.eq_ofNat_of_zero_le hw1.1
      obtain ⟨m2, hm2⟩ := Int.eq_ofNat_of_zero_le hw2.1
      subst hm1; subst hm2
      have e1 : IntKind.wrap .i64 (m1 : Int) = (m1 : Int) := by rw [IntWalk.i64_in _ (by omega)]
      have e2 : (m1 : Int).tmod (p.funs.length : Int) = ((m1 % p.funs.length : Nat) : Int) := IntWalk.up_tmod rfl rfl
      have e3 : IntKind.wrap .i64 (m2 : Int) = (m2 : Int) := by rw [IntWalk.i64_in _ (by omega)]
      have e4 : ¬ ((p.funs.length : Int) = 0) := by omega
      have hil : m1 % p.funs.length < p.funs.length := Nat.mod_lt _ (by omega)
      generalize hi : m1 % p.funs.length = i at e2 hil
      have hg0 := List.getElem?_eq_getElem hil
      have hg := getF hg0
      have hgm := List.getElem_mem hil
      have hgs := hs.fs _ hgm
      generalize p.funs[i] = g at hg0 hg hgs
      have hgl := len_szS g.body
      have hpl := hs.f
      have o1 := one_fus p.funs
      have o2 := oneN g.locs
      have z1 : (i : Int) < (p.funs.length : Int) := by omega
      have l1 := Calls_con p hf
      have hcl : (callsP p).length ≤ 1000000 := by rw [callsP, callsFrom_len]; omega
      have hSm := Same16_con (callsP p) (callsP p) hcl hcl (fun x hx => by have := callsFrom_row p _ _ x hx; omega) (fun x hx => by have := callsFrom_row p _ _ x hx; omega)
      rw [decide_eq_true rfl] at hSm
      rw [hav, hrow] at hF l1
      have fin : ∀ k, k < g.locs.length → ∃ a, g.locs[k]? = some a ∧ PCon env 11 [(renP p i g k a (qn n)).av] (.int .i64 (checkI p)) ∧ PCon env 14 [(renP p i g k a (qn n)).av] (.isl 1 ((callsP p).map intsRow)) ∧
          PCon env 21 [(renP p i g k a (qn n)).av, .int .i64 i, .str (qn n)] (.tup [.int .i64 1, .int .i64 ((g.params.length + k : Nat) : Int)]) := fun k hk => by
        have hk0 := List.getElem?_eq_getElem hk
        refine ⟨_, hk0, ?_⟩
        generalize g.locs[k] = a at hk0
        have hq := renP_few hs hg0 (k := k) (a := a) hql
        have hql1 : 1 ≤ (renP p i g k a (qn n)).funs.length := by rw [ren_len hg0 hk0 hn1 hn]; exact h1
        have r1 := Check_con _ hq hql1
        have r2 := Calls_con _ hq
        have r3 := scFind_con _ hq i (by rw [ren_len hg0 hk0 hn1 hn]; exact hil) (qn n)
        rw [ren_check hg0 hk0 hn1 hn] at r1
        rw [ren_calls hg0 hk0 hn1 hn] at r2
        rw [ren_find_b hg0 hk0 hn1 hn] at r3
        exact ⟨r1, r2, r3⟩
      generalize hck : decide (checkI p = 4) = ck at h0
      subst h0
      generalize checkI p = ci at *
      generalize (callsP p).map intsRow = cl at *
      generalize qn n = s at *
      refine con_of 111 [.tmp 6] Try.func8 rfl rfl rfl rfl ?_
      refine awp_seq_k fun K hK => ?_
      refine awp_region rfl ?_
      simp only [hck, List.length_map, e1, e2, e3, e4, z1, hg, o1, o2, RR, seval]
      refine awpN_intro fun b3 hn3 => ?_
      simp only [hck, List.length_map, e1, e2, e3, e4, z1, hg, o1, o2, RR, seval]
      refine hK _ _ ?_; clear hK K
      refine awp_seq ?_
      refine awp_seq_k fun K hK => ?_
      refine awp_region rfl ?_
      simp only [hck, List.length_map, e1, e2, e3, e4, z1, hg, o1, o2, RR, seval]
      refine awpC_pure' (alive_con) ?_
      simp only [hck, List.length_map, e1, e2, e3, e4, z1, hg, o1, o2, RR, seval]
      refine hK _ _ ?_; clear hK K
      refine awp_if false rfl (fun hc => by cases hc) (fun _ => ?_)
      refine awp_skip ?_; try simp only [RR]
      refine awp_seq ?_
      refine awp_seq_k fun K hK => ?_
      refine awp_region rfl ?_
      simp only [hck, List.length_map, e1, e2, e3, e4, z1, hg, o1, o2, RR, seval]
      refine awpC_pure' (hfew) ?_
      simp only [hck, List.length_map, e1, e2, e3, e4, z1, hg, o1, o2, RR, seval]
      refine awpC_pure' (c1) ?_
      simp only [hck, List.length_map, e1, e2, e3, e4, z1, hg, o1, o2, RR, seval]
      refine hK _ _ ?_; clear hK K
      refine awp_if false rfl (fun hc => by cases hc) (fun _ => ?_)
      refine awp_skip ?_; try simp only [RR]
      refine awp_seq_k fun K hK => ?_
      refine awp_region rfl ?_
      simp only [hck, List.length_map, e1, e2, e3, e4, z1, hg, o1, o2, RR, seval]
      refine hK _ _ ?_; clear hK K
      refine awp_seq_k fun K hK => ?_
      refine awp_region rfl ?_
      simp only [hck, List.length_map, e1, e2, e3, e4, z1, hg, o1, o2, RR, seval]
      refine awpN_intro fun b8 hn8 => ?_
      have nb8_b3 : b8 ≠ b3 := fun e => by rw [e] at hn8; simp only [hck, List.length_map, e1, e2, e3, e4, z1, hg, o1, o2, RR, seval, reduceCtorEq] at hn8
      have nb3_b8 : b3 ≠ b8 := fun e => nb8_b3 e.symm
      simp only [nb8_b3, nb3_b8, hck, List.length_map, e1, e2, e3, e4, z1, hg, o1, o2, RR, seval]
      refine hK _ _ ?_; clear hK K
      refine awp_seq ?_
      refine awp_seq_k fun K hK => ?_
      refine awp_region rfl ?_
      simp only [nb8_b3, nb3_b8, hck, List.length_map, e1, e2, e3, e4, z1, hg, o1, o2, RR, seval]
      refine hK _ _ ?_; clear hK K
      refine awp_if _ rfl (fun hc7 => ?_) (fun hc7 => ?_)
      · refine awp_seq_k fun K hK => ?_
        refine awp_region rfl ?_
        simp only [nb8_b3, nb3_b8, hck, List.length_map, e1, e2, e3, e4, z1, hg, o1, o2, RR, seval]
        refine hK _ _ ?_; clear hK K
        refine awp_ret ?_; simp only [bodyQ, aresult, ares, nb8_b3, nb3_b8, hck, List.length_map, e1, e2, e3, e4, z1, hg, o1, o2, RR, seval]
        refine Gives.pure ?_
        rfl
      · have hl0 : ¬ ((g.locs.length : Int) = 0) := of_decide_eq_false hc7
        have hkl : m2 % g.locs.length < g.locs.length := Nat.mod_lt _ (by omega)
        have e5 : (m2 : Int).tmod (g.locs.length : Int) = ((m2 % g.locs.length : Nat) : Int) := IntWalk.up_tmod rfl rfl
        generalize m2 % g.locs.length = k at hkl e5
        obtain ⟨a, hk0, r1, r2, r3⟩ := fin k hkl
        have hgk := getN hk0
        have z2 : (k : Int) < (g.locs.length : Int) := by omega
        have hbz := szS_ren a s _ g.body (Nat.le_refl _)
        have hrn := renamed_con a s _ g.body (Nat.le_refl _) (by omega)
        have e7 : IntKind.wrap .i64 ((g.params.length : Int) + (k : Int)) = ((g.params.length + k : Nat) : Int) := by rw [IntWalk.i64_in _ (by omega)]; omega
        have hI := Ints_con [1, ((g.params.length + k : Nat) : Int)] [1, ((g.params.length + k : Nat) : Int)] (by simp) (by simp)
        rw [decide_eq_true rfl] at hI
        simp only [List.map_cons, List.map_nil, intRow] at hI
        rw [renP_av] at r1 r2 r3
        refine awp_skip ?_; try simp only [RR]
        refine awp_seq_k fun K hK => ?_
        refine awp_region rfl ?_
        simp only [nb8_b3, nb3_b8, hck, List.length_map, e1, e2, e3, e4, z1, hg, o1, o2, hl0, e5, z2, hgk, e7, RR, seval]
        refine hK _ _ ?_; clear hK K
        refine awp_seq_k fun K hK => ?_
        refine awp_region rfl ?_
        simp only [nb8_b3, nb3_b8, hck, List.length_map, e1, e2, e3, e4, z1, hg, o1, o2, hl0, e5, z2, hgk, e7, RR, seval]
        refine awpC_pure' (hF) ?_
        simp only [nb8_b3, nb3_b8, hck, List.length_map, e1, e2, e3, e4, z1, hg, o1, o2, hl0, e5, z2, hgk, e7, RR, seval]
        refine hK _ _ ?_; clear hK K
        refine awp_seq_k fun K hK => ?_
        refine awp_region rfl ?_
        simp only [nb8_b3, nb3_b8, hck, List.length_map, e1, e2, e3, e4, z1, hg, o1, o2, hl0, e5, z2, hgk, e7, RR, seval]
        refine hK _ _ ?_; clear hK K
        refine awp_seq_k fun K hK => ?_
        refine awp_region rfl ?_
        simp only [nb8_b3, nb3_b8, hck, List.length_map, e1, e2, e3, e4, z1, hg, o1, o2, hl0, e5, z2, hgk, e7, RR, seval]
        refine awpB_own fun b53 hn53 => ?_
        have nb53_b3 : b53 ≠ b3 := fun e => by rw [e] at hn53; simp only [nb8_b3, nb3_b8, hck, List.length_map, e1, e2, e3, e4, z1, hg, o1, o2, hl0, e5, z2, hgk, e7, RR, seval, reduceCtorEq] at hn53
        have nb3_b53 : b3 ≠ b53 := fun e => nb53_b3 e.symm
        have nb53_b8 : b53 ≠ b8 := fun e => by rw [e] at hn53; simp only [nb8_b3, nb3_b8, hck, List.length_map, e1, e2, e3, e4, z1, hg, o1, o2, hl0, e5, z2, hgk, e7, RR, seval, reduceCtorEq] at hn53
        have nb8_b53 : b8 ≠ b53 := fun e => nb53_b8 e.symm
        simp only [nb8_b3, nb3_b8, nb53_b3, nb3_b53, nb53_b8, nb8_b53, hck, List.length_map, e1, e2, e3, e4, z1, hg, o1, o2, hl0, e5, z2, hgk, e7, RR, seval]
        refine awpA_osl (b := b53) (upd_same _ _ _) (by simp only [List.length_map, List.length_append, List.length_cons, List.length_nil, Nat.zero_add]) (by simp only [List.length_map, List.length_append, List.length_cons, List.length_nil]; omega) (by repeat (first | trivial | assumption | refine ⟨?_, ?_⟩)) fun b56 hn56 => ?_
        have nb56_b3 : b56 ≠ b3 := by rcases hn56 with e | e; rw [e]; exact nb53_b3; intro e2; rw [e2] at e; simp only [nb8_b3, nb3_b8, nb53_b3, nb3_b53, nb53_b8, nb8_b53, hck, List.length_map, e1, e2, e3, e4, z1, hg, o1, o2, hl0, e5, z2, hgk, e7, RR, seval, reduceCtorEq] at e
        have nb3_b56 : b3 ≠ b56 := fun e => nb56_b3 e.symm
        have nb56_b8 : b56 ≠ b8 := by rcases hn56 with e | e; rw [e]; exact nb53_b8; intro e2; rw [e2] at e; simp only [nb8_b3, nb3_b8, nb53_b3, nb3_b53, nb53_b8, nb8_b53, hck, List.length_map, e1, e2, e3, e4, z1, hg, o1, o2, hl0, e5, z2, hgk, e7, RR, seval, reduceCtorEq] at e
        have nb8_b56 : b8 ≠ b56 := fun e => nb56_b8 e.symm
        simp only [List.length_append, nb8_b3, nb3_b8, nb53_b3, nb3_b53, nb53_b8, nb8_b53, nb56_b3, nb3_b56, nb56_b8, nb8_b56, hck, List.length_map, e1, e2, e3, e4, z1, hg, o1, o2, hl0, e5, z2, hgk, e7, RR, seval]
        refine hK _ _ ?_; clear hK K
        refine awp_seq_k fun K hK => ?_
        refine awp_region rfl ?_
        simp only [nb8_b3, nb3_b8, nb53_b3, nb3_b53, nb53_b8, nb8_b53, nb56_b3, nb3_b56, nb56_b8, nb8_b56, hck, List.length_map, e1, e2, e3, e4, z1, hg, o1, o2, hl0, e5, z2, hgk, e7, RR, seval]
        refine hK _ _ ?_; clear hK K
        refine awp_seq_k fun K hK => ?_
        refine awp_region rfl ?_
        simp only [nb8_b3, nb3_b8, nb53_b3, nb3_b53, nb53_b8, nb8_b53, nb56_b3, nb3_b56, nb56_b8, nb8_b56, hck, List.length_map, e1, e2, e3, e4, z1, hg, o1, o2, hl0, e5, z2, hgk, e7, RR, seval]
        refine awpC_pure' (hrn) ?_
        simp only [nb8_b3, nb3_b8, nb53_b3, nb3_b53, nb53_b8, nb8_b53, nb56_b3, nb3_b56, nb56_b8, nb8_b56, hck, List.length_map, e1, e2, e3, e4, z1, hg, o1, o2, hl0, e5, z2, hgk, e7, RR, seval]
        refine hK _ _ ?_; clear hK K
        refine awp_seq_k fun K hK => ?_
        refine awp_region rfl ?_
        simp only [nb8_b3, nb3_b8, nb53_b3, nb3_b53, nb53_b8, nb8_b53, nb56_b3, nb3_b56, nb56_b8, nb8_b56, hck, List.length_map, e1, e2, e3, e4, z1, hg, o1, o2, hl0, e5, z2, hgk, e7, RR, seval]
        refine awpN_intro fun b12 hn12 => ?_
        have nb12_b3 : b12 ≠ b3 := fun e => by rw [e] at hn12; simp only [nb8_b3, nb3_b8, nb53_b3, nb3_b53, nb53_b8, nb8_b53, nb56_b3, nb3_b56, nb56_b8, nb8_b56, hck, List.length_map, e1, e2, e3, e4, z1, hg, o1, o2, hl0, e5, z2, hgk, e7, RR, seval, reduceCtorEq] at hn12
        have nb3_b12 : b3 ≠ b12 := fun e => nb12_b3 e.symm
        have nb12_b8 : b12 ≠ b8 := fun e => by rw [e] at hn12; simp only [nb8_b3, nb3_b8, nb53_b3, nb3_b53, nb53_b8, nb8_b53, nb56_b3, nb3_b56, nb56_b8, nb8_b56, hck, List.length_map, e1, e2, e3, e4, z1, hg, o1, o2, hl0, e5, z2, hgk, e7, RR, seval, reduceCtorEq] at hn12
        have nb8_b12 : b8 ≠ b12 := fun e => nb12_b8 e.symm
        have nb12_b56 : b12 ≠ b56 := fun e => by rw [e] at hn12; simp only [nb8_b3, nb3_b8, nb53_b3, nb3_b53, nb53_b8, nb8_b53, nb56_b3, nb3_b56, nb56_b8, nb8_b56, hck, List.length_map, e1, e2, e3, e4, z1, hg, o1, o2, hl0, e5, z2, hgk, e7, RR, seval, reduceCtorEq] at hn12
        have nb56_b12 : b56 ≠ b12 := fun e => nb12_b56 e.symm
        simp only [nb8_b3, nb3_b8, nb53_b3, nb3_b53, nb53_b8, nb8_b53, nb56_b3, nb3_b56, nb56_b8, nb8_b56, nb12_b3, nb3_b12, nb12_b8, nb8_b12, nb12_b56, nb56_b12, hck, List.length_map, e1, e2, e3, e4, z1, hg, o1, o2, hl0, e5, z2, hgk, e7, RR, seval]
        refine hK _ _ ?_; clear hK K
        refine awp_seq_k fun K hK => ?_
        refine awp_region rfl ?_
        simp only [nb8_b3, nb3_b8, nb53_b3, nb3_b53, nb53_b8, nb8_b53, nb56_b3, nb3_b56, nb56_b8, nb8_b56, nb12_b3, nb3_b12, nb12_b8, nb8_b12, nb12_b56, nb56_b12, hck, List.length_map, e1, e2, e3, e4, z1, hg, o1, o2, hl0, e5, z2, hgk, e7, RR, seval]
        refine awpB_own fun b70 hn70 => ?_
        have nb70_b3 : b70 ≠ b3 := fun e => by rw [e] at hn70; simp only [nb8_b3, nb3_b8, nb53_b3, nb3_b53, nb53_b8, nb8_b53, nb56_b3, nb3_b56, nb56_b8, nb8_b56, nb12_b3, nb3_b12, nb12_b8, nb8_b12, nb12_b56, nb56_b12, hck, List.length_map, e1, e2, e3, e4, z1, hg, o1, o2, hl0, e5, z2, hgk, e7, RR, seval, reduceCtorEq] at hn70
        have nb3_b70 : b3 ≠ b70 := fun e => nb70_b3 e.symm
        have nb70_b8 : b70 ≠ b8 := fun e => by rw [e] at hn70; simp only [nb8_b3, nb3_b8, nb53_b3, nb3_b53, nb53_b8, nb8_b53, nb56_b3, nb3_b56, nb56_b8, nb8_b56, nb12_b3, nb3_b12, nb12_b8, nb8_b12, nb12_b56, nb56_b12, hck, List.length_map, e1, e2, e3, e4, z1, hg, o1, o2, hl0, e5, z2, hgk, e7, RR, seval, reduceCtorEq] at hn70
        have nb8_b70 : b8 ≠ b70 := fun e => nb70_b8 e.symm
        have nb70_b56 : b70 ≠ b56 := fun e => by rw [e] at hn70; simp only [nb8_b3, nb3_b8, nb53_b3, nb3_b53, nb53_b8, nb8_b53, nb56_b3, nb3_b56, nb56_b8, nb8_b56, nb12_b3, nb3_b12, nb12_b8, nb8_b12, nb12_b56, nb56_b12, hck, List.length_map, e1, e2, e3, e4, z1, hg, o1, o2, hl0, e5, z2, hgk, e7, RR, seval, reduceCtorEq] at hn70
        have nb56_b70 : b56 ≠ b70 := fun e => nb70_b56 e.symm
        have nb70_b12 : b70 ≠ b12 := fun e => by rw [e] at hn70; simp only [nb8_b3, nb3_b8, nb53_b3, nb3_b53, nb53_b8, nb8_b53, nb56_b3, nb3_b56, nb56_b8, nb8_b56, nb12_b3, nb3_b12, nb12_b8, nb8_b12, nb12_b56, nb56_b12, hck, List.length_map, e1, e2, e3, e4, z1, hg, o1, o2, hl0, e5, z2, hgk, e7, RR, seval, reduceCtorEq] at hn70
        have nb12_b70 : b12 ≠ b70 := fun e => nb70_b12 e.symm
        simp only [nb8_b3, nb3_b8, nb53_b3, nb3_b53, nb53_b8, nb8_b53, nb56_b3, nb3_b56, nb56_b8, nb8_b56, nb12_b3, nb3_b12, nb12_b8, nb8_b12, nb12_b56, nb56_b12, nb70_b3, nb3_b70, nb70_b8, nb8_b70, nb70_b56, nb56_b70, nb70_b12, nb12_b70, hck, List.length_map, e1, e2, e3, e4, z1, hg, o1, o2, hl0, e5, z2, hgk, e7, RR, seval]
        refine awpA_osl (b := b70) (upd_same _ _ _) (by simp only [List.length_map, List.length_append, List.length_cons, List.length_nil, Nat.zero_add]) (by simp only [List.length_map, List.length_append, List.length_cons, List.length_nil]; omega) (by repeat (first | trivial | assumption | refine ⟨?_, ?_⟩)) fun b73 hn73 => ?_
        have nb73_b3 : b73 ≠ b3 := by rcases hn73 with e | e; rw [e]; exact nb70_b3; intro e2; rw [e2] at e; simp only [nb8_b3, nb3_b8, nb53_b3, nb3_b53, nb53_b8, nb8_b53, nb56_b3, nb3_b56, nb56_b8, nb8_b56, nb12_b3, nb3_b12, nb12_b8, nb8_b12, nb12_b56, nb56_b12, nb70_b3, nb3_b70, nb70_b8, nb8_b70, nb70_b56, nb56_b70, nb70_b12, nb12_b70, hck, List.length_map, e1, e2, e3, e4, z1, hg, o1, o2, hl0, e5, z2, hgk, e7, RR, seval, reduceCtorEq] at e
        have nb3_b73 : b3 ≠ b73 := fun e => nb73_b3 e.symm
        have nb73_b8 : b73 ≠ b8 := by rcases hn73 with e | e; rw [e]; exact nb70_b8; intro e2; rw [e2] at e; simp only [nb8_b3, nb3_b8, nb53_b3, nb3_b53, nb53_b8, nb8_b53, nb56_b3, nb3_b56, nb56_b8, nb8_b56, nb12_b3, nb3_b12, nb12_b8, nb8_b12, nb12_b56, nb56_b12, nb70_b3, nb3_b70, nb70_b8, nb8_b70, nb70_b56, nb56_b70, nb70_b12, nb12_b70, hck, List.length_map, e1, e2, e3, e4, z1, hg, o1, o2, hl0, e5, z2, hgk, e7, RR, seval, reduceCtorEq] at e
        have nb8_b73 : b8 ≠ b73 := fun e => nb73_b8 e.symm
        have nb73_b56 : b73 ≠ b56 := by rcases hn73 with e | e; rw [e]; exact nb70_b56; intro e2; rw [e2] at e; simp only [nb8_b3, nb3_b8, nb53_b3, nb3_b53, nb53_b8, nb8_b53, nb56_b3, nb3_b56, nb56_b8, nb8_b56, nb12_b3, nb3_b12, nb12_b8, nb8_b12, nb12_b56, nb56_b12, nb70_b3, nb3_b70, nb70_b8, nb8_b70, nb70_b56, nb56_b70, nb70_b12, nb12_b70, hck, List.length_map, e1, e2, e3, e4, z1, hg, o1, o2, hl0, e5, z2, hgk, e7, RR, seval, reduceCtorEq] at e
        have nb56_b73 : b56 ≠ b73 := fun e => nb73_b56 e.symm
        have nb73_b12 : b73 ≠ b12 := by rcases hn73 with e | e; rw [e]; exact nb70_b12; intro e2; rw [e2] at e; simp only [nb8_b3, nb3_b8, nb53_b3, nb3_b53, nb53_b8, nb8_b53, nb56_b3, nb3_b56, nb56_b8, nb8_b56, nb12_b3, nb3_b12, nb12_b8, nb8_b12, nb12_b56, nb56_b12, nb70_b3, nb3_b70, nb70_b8, nb8_b70, nb70_b56, nb56_b70, nb70_b12, nb12_b70, hck, List.length_map, e1, e2, e3, e4, z1, hg, o1, o2, hl0, e5, z2, hgk, e7, RR, seval, reduceCtorEq] at e
        have nb12_b73 : b12 ≠ b73 := fun e => nb73_b12 e.symm
        simp only [List.length_append, nb8_b3, nb3_b8, nb53_b3, nb3_b53, nb53_b8, nb8_b53, nb56_b3, nb3_b56, nb56_b8, nb8_b56, nb12_b3, nb3_b12, nb12_b8, nb8_b12, nb12_b56, nb56_b12, nb70_b3, nb3_b70, nb70_b8, nb8_b70, nb70_b56, nb56_b70, nb70_b12, nb12_b70, nb73_b3, nb3_b73, nb73_b8, nb8_b73, nb73_b56, nb56_b73, nb73_b12, nb12_b73, hck, List.length_map, e1, e2, e3, e4, z1, hg, o1, o2, hl0, e5, z2, hgk, e7, RR, seval]
        refine hK _ _ ?_; clear hK K
        refine awp_name fun F1 M1 hfr hH => ?_
        have g3 := hfr 3
        have g6 := hfr 6
        have g7 := hfr 7
        have g8 := hfr 8
        have g9 := hfr 9
        have g10 := hfr 10
        have g12 := hfr 12
        have gb3 := hH b3
        have gb8 := hH b8
        have gb56 := hH b56
        have gb12 := hH b12
        have gb73 := hH b73
        try simp only [nb8_b3, nb3_b8, nb53_b3, nb3_b53, nb53_b8, nb8_b53, nb56_b3, nb3_b56, nb56_b8, nb8_b56, nb12_b3, nb3_b12, nb12_b8, nb8_b12, nb12_b56, nb56_b12, nb70_b3, nb3_b70, nb70_b8, nb8_b70, nb70_b56, nb56_b70, nb70_b12, nb12_b70, nb73_b3, nb3_b73, nb73_b8, nb8_b73, nb73_b56, nb56_b73, nb73_b12, nb12_b73, hck, List.length_map, e1, e2, e3, e4, z1, hg, o1, o2, hl0, e5, z2, hgk, e7, RR, seval] at g3 g6 g7 g8 g9 g10 g12 gb3 gb8 gb56 gb12 gb73
        have f3 := g3; clear g3
        have f6 := g6; clear g6
        have f7 := g7; clear g7
        have f8 := g8; clear g8
        have f9 := g9; clear g9
        have f10 := g10; clear g10
        have f12 := g12; clear g12
        have hb3 := gb3; clear gb3
        have hb8 := gb8; clear gb8
        have hb56 := gb56; clear gb56
        have hb12 := gb12; clear gb12
        have hb73 := gb73; clear gb73
        clear hfr hH
        refine awp_freezeAll hb56 ?_
        refine awp_name fun F2 M2 hfr hH => ?_
        have g3 := hfr 3
        have g6 := hfr 6
        have g7 := hfr 7
        have g8 := hfr 8
        have g9 := hfr 9
        have g10 := hfr 10
        have g12 := hfr 12
        have gb3 := hH b3
        have gb8 := hH b8
        have gb12 := hH b12
        have gb73 := hH b73
        try simp only [frzO_rows, List.map_cons, List.map_nil, Option.map_some, frz_osl, frz_isl, frz_int, frz_str, frz_bool, frz_ptr, frz_nsl, frz_self, and_self, List.length_map, List.length_set, List.length_append, List.length_cons, List.length_nil, frz_rowsF flat_fu, f3, f6, f7, f8, f9, f10, f12, hb3, hb8, hb12, hb73, nb8_b3, nb3_b8, nb53_b3, nb3_b53, nb53_b8, nb8_b53, nb56_b3, nb3_b56, nb56_b8, nb8_b56, nb12_b3, nb3_b12, nb12_b8, nb8_b12, nb12_b56, nb56_b12, nb70_b3, nb3_b70, nb70_b8, nb8_b70, nb70_b56, nb56_b70, nb70_b12, nb12_b70, nb73_b3, nb3_b73, nb73_b8, nb8_b73, nb73_b56, nb56_b73, nb73_b12, nb12_b73, hck, List.length_map, e1, e2, e3, e4, z1, hg, o1, o2, hl0, e5, z2, hgk, e7, RR, seval] at g3 g6 g7 g8 g9 g10 g12 gb3 gb8 gb12 gb73
        have f3 := g3; clear g3
        have f6 := g6; clear g6
        have f7 := g7; clear g7
        have f8 := g8; clear g8
        have f9 := g9; clear g9
        have f10 := g10; clear g10
        have f12 := g12; clear g12
        have hb3 := gb3; clear gb3
        have hb8 := gb8; clear gb8
        have hb12 := gb12; clear gb12
        have hb73 := gb73; clear gb73
        clear hfr hH
        refine awp_seq_k fun K hK => ?_
        refine awp_region rfl ?_
        simp only [f3, f6, f7, f8, f9, f10, f12, hb3, hb8, hb12, hb73, nb8_b3, nb3_b8, nb53_b3, nb3_b53, nb53_b8, nb8_b53, nb56_b3, nb3_b56, nb56_b8, nb8_b56, nb12_b3, nb3_b12, nb12_b8, nb8_b12, nb12_b56, nb56_b12, nb70_b3, nb3_b70, nb70_b8, nb8_b70, nb70_b56, nb56_b70, nb70_b12, nb12_b70, nb73_b3, nb3_b73, nb73_b8, nb8_b73, nb73_b56, nb56_b73, nb73_b12, nb12_b73, hck, List.length_map, e1, e2, e3, e4, z1, hg, o1, o2, hl0, e5, z2, hgk, e7, RR, seval]
        refine hK _ _ ?_; clear hK K
        refine awp_name fun F3 M3 hfr hH => ?_
        have g3 := hfr 3
        have g6 := hfr 6
        have g7 := hfr 7
        have g8 := hfr 8
        have g9 := hfr 9
        have g10 := hfr 10
        have g12 := hfr 12
        have gb3 := hH b3
        have gb8 := hH b8
        have gb12 := hH b12
        have gb73 := hH b73
        try simp only [f3, f6, f7, f8, f9, f10, f12, hb3, hb8, hb12, hb73, nb8_b3, nb3_b8, nb53_b3, nb3_b53, nb53_b8, nb8_b53, nb56_b3, nb3_b56, nb56_b8, nb8_b56, nb12_b3, nb3_b12, nb12_b8, nb8_b12, nb12_b56, nb56_b12, nb70_b3, nb3_b70, nb70_b8, nb8_b70, nb70_b56, nb56_b70, nb70_b12, nb12_b70, nb73_b3, nb3_b73, nb73_b8, nb8_b73, nb73_b56, nb56_b73, nb73_b12, nb12_b73, hck, List.length_map, e1, e2, e3, e4, z1, hg, o1, o2, hl0, e5, z2, hgk, e7, RR, seval] at g3 g6 g7 g8 g9 g10 g12 gb3 gb8 gb12 gb73
        have f3 := g3; clear g3
        have f6 := g6; clear g6
        have f7 := g7; clear g7
        have f8 := g8; clear g8
        have f9 := g9; clear g9
        have f10 := g10; clear g10
        have f12 := g12; clear g12
        have hb3 := gb3; clear gb3
        have hb8 := gb8; clear gb8
        have hb12 := gb12; clear gb12
        have hb73 := gb73; clear gb73
        clear hfr hH
        refine awp_freezeAll hb73 ?_
        refine awp_name fun F4 M4 hfr hH => ?_
        have g3 := hfr 3
        have g6 := hfr 6
        have g7 := hfr 7
        have g8 := hfr 8
        have g9 := hfr 9
        have g10 := hfr 10
        have g12 := hfr 12
        have gb3 := hH b3
        have gb8 := hH b8
        have gb12 := hH b12
        try simp only [frzO_rows, List.map_cons, List.map_nil, Option.map_some, frz_osl, frz_isl, frz_int, frz_str, frz_bool, frz_ptr, frz_nsl, frz_self, and_self, List.length_map, List.length_set, List.length_append, List.length_cons, List.length_nil, f3, f6, f7, f8, f9, f10, f12, hb3, hb8, hb12, nb8_b3, nb3_b8, nb53_b3, nb3_b53, nb53_b8, nb8_b53, nb56_b3, nb3_b56, nb56_b8, nb8_b56, nb12_b3, nb3_b12, nb12_b8, nb8_b12, nb12_b56, nb56_b12, nb70_b3, nb3_b70, nb70_b8, nb8_b70, nb70_b56, nb56_b70, nb70_b12, nb12_b70, nb73_b3, nb3_b73, nb73_b8, nb8_b73, nb73_b56, nb56_b73, nb73_b12, nb12_b73, hck, List.length_map, e1, e2, e3, e4, z1, hg, o1, o2, hl0, e5, z2, hgk, e7, RR, seval] at g3 g6 g7 g8 g9 g10 g12 gb3 gb8 gb12
        have f3 := g3; clear g3
        have f6 := g6; clear g6
        have f7 := g7; clear g7
        have f8 := g8; clear g8
        have f9 := g9; clear g9
        have f10 := g10; clear g10
        have f12 := g12; clear g12
        have hb3 := gb3; clear gb3
        have hb8 := gb8; clear gb8
        have hb12 := gb12; clear gb12
        clear hfr hH
        refine awp_seq_k fun K hK => ?_
        refine awp_region rfl ?_
        simp only [f3, f6, f7, f8, f9, f10, f12, hb3, hb8, hb12, nb8_b3, nb3_b8, nb53_b3, nb3_b53, nb53_b8, nb8_b53, nb56_b3, nb3_b56, nb56_b8, nb8_b56, nb12_b3, nb3_b12, nb12_b8, nb8_b12, nb12_b56, nb56_b12, nb70_b3, nb3_b70, nb70_b8, nb8_b70, nb70_b56, nb56_b70, nb70_b12, nb12_b70, nb73_b3, nb3_b73, nb73_b8, nb8_b73, nb73_b56, nb56_b73, nb73_b12, nb12_b73, hck, List.length_map, e1, e2, e3, e4, z1, hg, o1, o2, hl0, e5, z2, hgk, e7, RR, seval]
        refine awpC_pure' (r3) ?_
        simp only [f3, f6, f7, f8, f9, f10, f12, hb3, hb8, hb12, nb8_b3, nb3_b8, nb53_b3, nb3_b53, nb53_b8, nb8_b53, nb56_b3, nb3_b56, nb56_b8, nb8_b56, nb12_b3, nb3_b12, nb12_b8, nb8_b12, nb12_b56, nb56_b12, nb70_b3, nb3_b70, nb70_b8, nb8_b70, nb70_b56, nb56_b70, nb70_b12, nb12_b70, nb73_b3, nb3_b73, nb73_b8, nb8_b73, nb73_b56, nb56_b73, nb73_b12, nb12_b73, hck, List.length_map, e1, e2, e3, e4, z1, hg, o1, o2, hl0, e5, z2, hgk, e7, RR, seval]
        refine hK _ _ ?_; clear hK K
        refine awp_seq_k fun K hK => ?_
        refine awp_region_draw2 (fun x => x ≠ b3 ∧ x ≠ b8 ∧ x ≠ b12) [(0, 1), (2, 0), (1, 1), (3, 1), (4, 1), (5, 1), (6, 1), (8, 0), (7, 1), (9, 1), (10, 1), (11, 1), (12, 1), (13, 0), (14, 0), (15, 2), (16, 1), (17, 1), (18, 1), (19, 1), (20, 1), (21, 2), (22, 1), (23, 1), (24, 1)] [] draws (by kernel_rfl) rfl rfl ?_
        simp only [emitF, markOf, ne_eq, not_true_eq_false, and_false, false_and, not_false_eq_true, f3, f6, f7, f8, f9, f10, f12, hb3, hb8, hb12, nb8_b3, nb3_b8, nb53_b3, nb3_b53, nb53_b8, nb8_b53, nb56_b3, nb3_b56, nb56_b8, nb8_b56, nb12_b3, nb3_b12, nb12_b8, nb8_b12, nb12_b56, nb56_b12, nb70_b3, nb3_b70, nb70_b8, nb8_b70, nb70_b56, nb56_b70, nb70_b12, nb12_b70, nb73_b3, nb3_b73, nb73_b8, nb8_b73, nb73_b56, nb56_b73, nb73_b12, nb12_b73, hck, List.length_map, e1, e2, e3, e4, z1, hg, o1, o2, hl0, e5, z2, hgk, e7, RR, seval]
        refine awpC_pure' (r1) ?_
        simp only [emitF, markOf, ne_eq, not_true_eq_false, and_false, false_and, not_false_eq_true, f3, f6, f7, f8, f9, f10, f12, hb3, hb8, hb12, nb8_b3, nb3_b8, nb53_b3, nb3_b53, nb53_b8, nb8_b53, nb56_b3, nb3_b56, nb56_b8, nb8_b56, nb12_b3, nb3_b12, nb12_b8, nb8_b12, nb12_b56, nb56_b12, nb70_b3, nb3_b70, nb70_b8, nb8_b70, nb70_b56, nb56_b70, nb70_b12, nb12_b70, nb73_b3, nb3_b73, nb73_b8, nb8_b73, nb73_b56, nb56_b73, nb73_b12, nb12_b73, hck, List.length_map, e1, e2, e3, e4, z1, hg, o1, o2, hl0, e5, z2, hgk, e7, RR, seval]
        refine awpC_pure' (c1) ?_
        simp only [emitF, markOf, ne_eq, not_true_eq_false, and_false, false_and, not_false_eq_true, f3, f6, f7, f8, f9, f10, f12, hb3, hb8, hb12, nb8_b3, nb3_b8, nb53_b3, nb3_b53, nb53_b8, nb8_b53, nb56_b3, nb3_b56, nb56_b8, nb8_b56, nb12_b3, nb3_b12, nb12_b8, nb8_b12, nb12_b56, nb56_b12, nb70_b3, nb3_b70, nb70_b8, nb8_b70, nb70_b56, nb56_b70, nb70_b12, nb12_b70, nb73_b3, nb3_b73, nb73_b8, nb8_b73, nb73_b56, nb56_b73, nb73_b12, nb12_b73, hck, List.length_map, e1, e2, e3, e4, z1, hg, o1, o2, hl0, e5, z2, hgk, e7, RR, seval]
        refine awpC_pure' (r2) ?_
        simp only [emitF, markOf, ne_eq, not_true_eq_false, and_false, false_and, not_false_eq_true, f3, f6, f7, f8, f9, f10, f12, hb3, hb8, hb12, nb8_b3, nb3_b8, nb53_b3, nb3_b53, nb53_b8, nb8_b53, nb56_b3, nb3_b56, nb56_b8, nb8_b56, nb12_b3, nb3_b12, nb12_b8, nb8_b12, nb12_b56, nb56_b12, nb70_b3, nb3_b70, nb70_b8, nb8_b70, nb70_b56, nb56_b70, nb70_b12, nb12_b70, nb73_b3, nb3_b73, nb73_b8, nb8_b73, nb73_b56, nb56_b73, nb73_b12, nb12_b73, hck, List.length_map, e1, e2, e3, e4, z1, hg, o1, o2, hl0, e5, z2, hgk, e7, RR, seval]
        refine awpC_pure' (l1) ?_
        simp only [emitF, markOf, ne_eq, not_true_eq_false, and_false, false_and, not_false_eq_true, f3, f6, f7, f8, f9, f10, f12, hb3, hb8, hb12, nb8_b3, nb3_b8, nb53_b3, nb3_b53, nb53_b8, nb8_b53, nb56_b3, nb3_b56, nb56_b8, nb8_b56, nb12_b3, nb3_b12, nb12_b8, nb8_b12, nb12_b56, nb56_b12, nb70_b3, nb3_b70, nb70_b8, nb8_b70, nb70_b56, nb56_b70, nb70_b12, nb12_b70, nb73_b3, nb3_b73, nb73_b8, nb8_b73, nb73_b56, nb56_b73, nb73_b12, nb12_b73, hck, List.length_map, e1, e2, e3, e4, z1, hg, o1, o2, hl0, e5, z2, hgk, e7, RR, seval]
        refine awpC_pure' (hSm) ?_
        simp only [emitF, markOf, ne_eq, not_true_eq_false, and_false, false_and, not_false_eq_true, f3, f6, f7, f8, f9, f10, f12, hb3, hb8, hb12, nb8_b3, nb3_b8, nb53_b3, nb3_b53, nb53_b8, nb8_b53, nb56_b3, nb3_b56, nb56_b8, nb8_b56, nb12_b3, nb3_b12, nb12_b8, nb8_b12, nb12_b56, nb56_b12, nb70_b3, nb3_b70, nb70_b8, nb8_b70, nb70_b56, nb56_b70, nb70_b12, nb12_b70, nb73_b3, nb3_b73, nb73_b8, nb8_b73, nb73_b56, nb56_b73, nb73_b12, nb12_b73, hck, List.length_map, e1, e2, e3, e4, z1, hg, o1, o2, hl0, e5, z2, hgk, e7, RR, seval]
        refine awpC_pure' (hI) ?_
        simp only [emitF, markOf, ne_eq, not_true_eq_false, and_false, false_and, not_false_eq_true, f3, f6, f7, f8, f9, f10, f12, hb3, hb8, hb12, nb8_b3, nb3_b8, nb53_b3, nb3_b53, nb53_b8, nb8_b53, nb56_b3, nb3_b56, nb56_b8, nb8_b56, nb12_b3, nb3_b12, nb12_b8, nb8_b12, nb12_b56, nb56_b12, nb70_b3, nb3_b70, nb70_b8, nb8_b70, nb70_b56, nb56_b70, nb70_b12, nb12_b70, nb73_b3, nb3_b73, nb73_b8, nb8_b73, nb73_b56, nb56_b73, nb73_b12, nb12_b73, hck, List.length_map, e1, e2, e3, e4, z1, hg, o1, o2, hl0, e5, z2, hgk, e7, RR, seval]
        refine hK _ _ ?_; clear hK K
        refine awp_ret ?_; simp only [bodyQ, aresult, ares, f3, f6, f7, f8, f9, f10, f12, hb3, hb8, hb12, nb8_b3, nb3_b8, nb53_b3, nb3_b53, nb53_b8, nb8_b53, nb56_b3, nb3_b56, nb56_b8, nb8_b56, nb12_b3, nb3_b12, nb12_b8, nb8_b12, nb12_b56, nb56_b12, nb70_b3, nb3_b70, nb70_b8, nb8_b70, nb70_b56, nb56_b70, nb70_b12, nb12_b70, nb73_b3, nb3_b73, nb73_b8, nb8_b73, nb73_b56, nb56_b73, nb73_b12, nb12_b73, hck, List.length_map, e1, e2, e3, e4, z1, hg, o1, o2, hl0, e5, z2, hgk, e7, RR, seval]
        refine Gives.pure ?_
        rfl
end Go.Proofs.Ytnbokmbjiioooaa
