/- A list in the last field of a box, sealed where it stands. -/
import Derived.Test.YtlpeikljipknoaaDoorSy1
set_option linter.unusedSimpArgs false
set_option linter.unusedVariables false
set_option maxRecDepth 10000
namespace Go.Al
theorem SubR.last {v w : AV} (h : Sub v w) : ∀ l : List AV, SubR (l ++ [v]) (l ++ [w])
  | [] => SubR.cons h SubR.nil
  | x :: l => SubR.cons (Sub.refl x) (SubR.last h l)
theorem map_flat {b sz : Nat} {l : List (List AV)} : ∀ (xs : List (List AV)), (xs.all fun r => r.all flatV) = true → xs.map (fun x => x.map (frz b sz l)) = xs
  | [], _ => rfl
  | x :: xs, h => by
    simp only [List.all_cons, Bool.and_eq_true] at h
    rw [List.map_cons, frz_rowF h.1, map_flat xs h.2]
theorem awp_sealF {E : Env} {N : Nat} {Q : APost} {c : Code} {fr : Fr} {H : Hp} {b0 sz sz' : Nat} {pre : List AV} {v : AV} {rows : List (List AV)} (hv : OwnL sz v rows H) (h0 : H b0 = some (.rows sz' [pre ++ [v]])) (hp : pre.all flatV = true) (ho : off v b0)
    (h : ∀ fr' H', (∀ j, flatV (fr j) = true → fr' j = fr j) → H' b0 = some (.rows sz' [pre ++ [.isl sz rows]]) → (∀ b s l, b ≠ b0 → off v b → (l.all fun r => r.all flatV) = true → H b = some (.rows s l) → H' b = some (.rows s l)) → awp E N c Q fr' H') : awp E N c Q fr H := by
  rcases hv with ⟨rfl, rfl⟩ | ⟨b, rfl, hb⟩
  · exact awp_weak1 h0 (SubR.last (Sub.nsl sz) pre) (h fr _ (fun _ _ => rfl) (upd_same _ _ _) (fun b s l hne _ _ hb => by rw [upd_ne _ _ hne]; exact hb))
  · refine awp_freezeAll hb (h _ _ (fun j hj => frz_flat hj) ?_ fun b1 s l hne ho1 hf hb1 => ?_)
    · show (if b0 = b then none else (H b0).map (frzO b sz rows)) = _
      rw [if_neg (fun e => ho _ _ (by rw [e])), h0]
      simp only [Option.map_some, frzO_rows, List.map_cons, List.map_nil, List.map_append, frz_self, frz_rowF hp]
    · show (if b1 = b then none else (H b1).map (frzO b sz rows)) = _
      rw [if_neg (fun e => ho1 _ _ (by rw [e])), hb1]
      simp only [Option.map_some, frzO_rows, map_flat l hf]
theorem OwnL.offsz {sz sz' : Nat} {v : AV} {rows r2 : List (List AV)} {H : Hp} (h : OwnL sz v rows H) {b : Nat} (hb : H b = some (.rows sz' r2)) (hs : sz' ≠ sz) : Al.off v b := fun s n e => by
  rcases h with ⟨rfl, _⟩ | ⟨b', rfl, hH⟩
  · cases e
  · cases e
    rw [hb] at hH; cases hH; exact hs rfl
theorem OwnL.cells {sz : Nat} {v : AV} {rows : List (List AV)} {H : Hp} (h : OwnL sz v rows H) : cellsOf v = some [v] := by rcases h with ⟨rfl, _⟩ | ⟨b, rfl, _⟩ <;> rfl
theorem OwnL.one1 {sz : Nat} {v : AV} {rows : List (List AV)} {H : Hp} (h : OwnL sz v rows H) : one v = true := by rcases h with ⟨rfl, _⟩ | ⟨b, rfl, _⟩ <;> rfl
theorem awpA_ownF {E : Env} {F : Nat → Prop} {ds : List (Option Nat)} {Q : APost} {d : Option Nat} {rest : List Oper} {fr : Fr} {H : Hp} {sz by' : Nat} {v : AV} {rows ys : List (List AV)} (hv : OwnL sz v rows H) (hb : (rows.length + ys.length) * by' ≤ 140737488355328) (hF : ∀ b, v = .osl sz b rows.length → F b)
    (h : ∀ v' H', OwnL sz v' (rows ++ ys) H' → (∀ b o, H b = some o → v ≠ .osl sz b rows.length → H' b = some o) → (∀ b, off v b → H b ≠ none → off v' b) → awpL E F ds Q rest (putF fr d v') H') : awpA E F ds Q d rest fr H (some (sz, by', v, ys)) := by
  rcases hv with ⟨rfl, rfl⟩ | ⟨b, rfl, hH⟩
  · simp only [List.nil_append, List.length_nil, Nat.zero_add] at h hb
    refine ⟨hb, fun e => h _ _ (.inl ⟨rfl, e⟩) (fun _ _ hb _ => hb) (fun b h1 _ => h1), fun e b hbn => h _ _ (.inr ⟨b, rfl, by simp [upd]⟩) (fun b' o hb' _ => ?_) fun b1 _ hn s n e1 => ?_⟩
    · have : b' ≠ b := fun c => by rw [c, hbn] at hb'; cases hb'
      simp [upd, this, hb']
    · cases e1
      exact hn hbn
  · simp only [awpA, hH]
    refine ⟨trivial, trivial, trivial, hb, hF b rfl, fun b' hb' => ?_⟩
    refine h _ _ (.inr ⟨b', by simp, by simp [upd]⟩) (fun b'' o h1 h2 => ?_) fun b1 h1 hn s n e1 => ?_
    · have n1 : b'' ≠ b := fun c => h2 (by rw [c])
      have n2 : b'' ≠ b' := fun c => by
        rcases hb' with e | e
        · exact n1 (c.trans e)
        · rw [← c, h1] at e; cases e
      simp [upd, n1, n2, h1]
    · cases e1
      rcases hb' with e | e
      · exact h1 _ _ (by rw [e])
      · exact hn e
end Go.Al
