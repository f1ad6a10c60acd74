/- The little logic: a map that is sealed; functions that read a block that they are handed. -/
import Derived.Test.YtlokndnkpleegaaAlLp
set_option linter.unusedSimpArgs false
set_option linter.unusedVariables false
set_option maxRecDepth 10000
namespace Go.Al
/-- what becomes of a value when map m is sealed -/
def smap (m : Nat) (es : List (AV × AV)) : AV → AV
  | .mp b => if b = m then .imp (es.map (·.1)) (es.map (·.2)) else .mp b
  | v => v
def smapO (m : Nat) (es : List (AV × AV)) : AObj → AObj
  | .rows s r => .rows s (r.map fun x => x.map (smap m es))
  | o => o
theorem EsRel.lists {S : Seal} {w : World} : ∀ {es : List (AV × AV)} {ms : List MapEntry}, EsRel S w es ms → LRel S w (es.map (·.1)) (ms.map fun e => e.key) ∧ LRel S w (es.map (·.2)) (ms.map fun e => e.val)
  | [], ms, h => by
    simp only [EsRel] at h
    subst h
    simp [LRel]
  | (k, v) :: es, ms, h => by
    simp only [EsRel] at h
    obtain ⟨e, es', rfl, h1, h2, h3⟩ := h
    obtain ⟨q1, q2⟩ := EsRel.lists h3
    simp only [List.map_cons, LRel]
    exact ⟨⟨_, _, rfl, h1, q1⟩, ⟨_, _, rfl, h2, q2⟩⟩
section
variable {E : Env} {N : Nat} {Q : APost} {c : Code} {fr : Fr} {H : Hp}
theorem awp_sealMap {m : Nat} {es : List (AV × AV)} (hb : H m = some (.amap es)) (h : awp E N c Q (fun t => smap m es (fr t)) (fun x => if x = m then none else (H x).map (smapO m es))) : awp E N c Q fr H := fun γ a w ⟨g1, g2, S, hst, hf⟩ => by
  have hk : Keeps S (fun k => S k ∨ k = m) w w := ⟨fun _ _ => rfl, fun _ _ h => h, fun _ h => .inl h⟩
  have ho := (hst.obj m _ hb).1
  have hlt := ho.lt
  simp only [ORel] at ho
  obtain ⟨mes, clock, hm, he⟩ := ho
  have he' := (EsRel.mono hk es _ he).lists
  have hv : ∀ x u, VRel S w x u → VRel (fun k => S k ∨ k = m) w (smap m es x) u := fun x u hx => by
    have h1 := VRel.mono hk _ _ hx
    cases x <;> try exact h1
    rename_i b
    simp only [smap]
    split
    · rename_i e
      subst e
      simp only [VRel] at h1 ⊢
      exact ⟨b, h1, .inr rfl, mes, clock, hm, he'.1, he'.2⟩
    · exact h1
  refine h γ a w ⟨g1, g2, _, ?_, fun t => hv _ _ (hf t)⟩
  refine hst.step (Ext.refl (fun _ => False) w) (fun _ h => h.elim) (fun _ h => .inl h) (fun k hk => ?_) (fun k hk => ?_) fun b' o hb' => ?_
  · rcases hk with hk | hk
    · exact hst.lt k hk
    · exact hk ▸ hlt
  · rcases hk with hk | hk
    · exact .inl hk
    · exact .inr (.inl (by rw [hk, hb]; simp))
  · split at hb'
    · cases hb'
    · rename_i hne
      rw [Option.map_eq_some_iff] at hb'
      obtain ⟨o0, ho0, rfl⟩ := hb'
      have hobj := hst.obj b' o0 ho0
      refine ⟨fun hs => ?_, .inr ⟨?_, .inl (by rw [ho0]; simp)⟩⟩
      · rcases hs with hs | hs
        · exact hobj.2.1 hs
        · exact hne hs
      · cases o0 with
        | rows s r =>
          have h1 := hobj.1
          simp only [ORel, smapO] at *
          obtain ⟨cs', e', h2, h3, h4⟩ := h1
          refine ⟨cs', e', h2, by rw [List.length_map]; exact h3, RowsRel.sub h4 (by simp) fun i x x' hx hx' => ?_⟩
          rw [List.getElem?_map, hx] at hx'
          cases hx'
          refine ⟨by simp, fun j y y' u hy hy' hyu => ?_⟩
          rw [List.getElem?_map, hy] at hy'
          cases hy'
          exact hv _ _ hyu
        | amap es2 =>
          have h1 := hobj.1
          simp only [ORel, smapO] at *
          obtain ⟨mes2, clock2, h2, h3⟩ := h1
          exact ⟨mes2, clock2, h2, EsRel.mono hk es2 _ h3⟩
theorem smap_mp (m : Nat) (es : List (AV × AV)) : smap m es (.mp m) = .imp (es.map (·.1)) (es.map (·.2)) := by simp [smap]
theorem smap_isl (m : Nat) (es : List (AV × AV)) (s : Nat) (r : List (List AV)) : smap m es (.isl s r) = .isl s r := Eq.trans rfl rfl
theorem smap_int (m : Nat) (es : List (AV × AV)) (k : IntKind) (n : Int) : smap m es (.int k n) = .int k n := Eq.trans rfl rfl
theorem smap_str (m : Nat) (es : List (AV × AV)) (s : List UInt8) : smap m es (.str s) = .str s := Eq.trans rfl rfl
theorem smap_bool (m : Nat) (es : List (AV × AV)) (s : Bool) : smap m es (.bool s) = .bool s := Eq.trans rfl rfl
theorem smap_ptr (m : Nat) (es : List (AV × AV)) (s b i j : Nat) : smap m es (.ptr s b i j) = .ptr s b i j := Eq.trans rfl rfl
theorem smap_nsl (m : Nat) (es : List (AV × AV)) : smap m es .nsl = .nsl := Eq.trans rfl rfl
theorem smap_nfn (m : Nat) (es : List (AV × AV)) : smap m es .nfn = .nfn := Eq.trans rfl rfl
theorem smap_npt (m : Nat) (es : List (AV × AV)) : smap m es .npt = .npt := Eq.trans rfl rfl
theorem smap_osl (m : Nat) (es : List (AV × AV)) (s b n : Nat) : smap m es (.osl s b n) = .osl s b n := Eq.trans rfl rfl
theorem smap_fn (m : Nat) (es : List (AV × AV)) (f : Fn) (x y : List AV) : smap m es (.fn f x y) = .fn f x y := Eq.trans rfl rfl
theorem smap_imp (m : Nat) (es : List (AV × AV)) (x y : List AV) : smap m es (.imp x y) = .imp x y := Eq.trans rfl rfl
theorem smapO_rows (m : Nat) (es : List (AV × AV)) (sz : Nat) (r : List (List AV)) : smapO m es (.rows sz r) = .rows sz (r.map fun x => x.map (smap m es)) := Eq.trans rfl rfl
theorem smapO_map (m : Nat) (es r : List (AV × AV)) : smapO m es (.amap r) = .amap r := Eq.trans rfl rfl
theorem SM : type_of% (And.intro smap_mp <| And.intro smap_isl <| And.intro smap_int <| And.intro smap_str <| And.intro smap_bool <| And.intro smap_ptr <| And.intro smap_nsl <| And.intro smap_nfn <| And.intro smap_npt <| And.intro smap_osl <| And.intro smap_fn <| And.intro smap_imp <| And.intro smapO_rows smapO_map) := And.intro smap_mp <| And.intro smap_isl <| And.intro smap_int <| And.intro smap_str <| And.intro smap_bool <| And.intro smap_ptr <| And.intro smap_nsl <| And.intro smap_nfn <| And.intro smap_npt <| And.intro smap_osl <| And.intro smap_fn <| And.intro smap_imp <| And.intro smapO_rows smapO_map
theorem zip_pairs (es : List (AV × AV)) : (es.map (·.1)).zip (es.map (·.2)) = es := by
  induction es with
  | nil => rfl
  | cons p es ih => simp [ih]
/-- one block -/
def H1 (b : Nat) (o : AObj) : Hp := Al.upd emp b (some o)
theorem H1_same (b : Nat) (o : AObj) : H1 b o b = some o := upd_same _ _ _
theorem hsub_H1 {b : Nat} {o : AObj} (h : H b = some o) : hsub (H1 b o) H := fun b' o' h' => by
  unfold H1 at h'
  by_cases e : b' = b
  · subst e
    rw [upd_same] at h'
    cases h'
    exact h
  · rw [upd_ne _ _ e] at h'; cases h'
/-- THE CONTRACT OF A FUNCTION that reads what it owns, and leaves it as it is. -/
def QCon (E : Env) (g : FuncId) (args : List AV) (H0 : Hp) (v : AV) : Prop := Con E g args H0 (fun ae H' => ae = .ret v ∧ H' = H0)
theorem Gives.q {v v' : AV} {H0 : Hp} (h : v = v') (hs : hsub H0 H) : Gives (fun ae H' => ae = .ret v' ∧ H' = H0) v H :=
  ⟨v, H0, Turn.drop hs, by rw [h], rfl⟩
theorem hjoin_sub {H0 : Hp} (hs : hsub H0 H) : hjoin H0 H0 H = H := by
  funext b
  unfold hjoin
  cases h : H0 b with
  | some o => simp only; exact (hs b o h).symm
  | none => simp
end
section
variable {E : Env} {F : Nat → Prop} {ds : List (Option Nat)} {Q : APost} {d : Option Nat} {rest : List Oper} {fr : Fr} {H : Hp} {g : FuncId} {args : List AV} {v : AV}
theorem awpC_q {H0 : Hp} (hc : QCon E g args H0 v) (hs : hsub H0 H) (hF : ∀ b, H0 b ≠ none → F b) (h : awpL E F ds Q rest (putF fr d v) H) : awpC E F ds Q d rest fr H g args := by
  refine awpC_con hc (SubL.refl _) hs hF fun ae H' ⟨e1, e2⟩ _ => ?_
  subst e1; subst e2
  simp only
  rw [hjoin_sub hs]
  exact h
/-- a function that reads one block that it is handed -/
theorem awpC_q1 {b : Nat} {o : AObj} (hc : QCon E g args (H1 b o) v) (hb : H b = some o) (hF : ∀ x, F x) (h : awpL E F ds Q rest (putF fr d v) H) : awpC E F ds Q d rest fr H g args :=
  awpC_q hc (hsub_H1 hb) (fun x _ => hF x) h
end
end Go.Al
