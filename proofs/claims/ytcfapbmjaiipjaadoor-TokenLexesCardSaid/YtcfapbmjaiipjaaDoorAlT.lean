/- The little logic, twentieth part: what a contract says to the kit's cards. -/
import Derived.Test.YtcfapbmjaiipjaaDoorAlS
import Derived.RowKit3
set_option linter.unusedSimpArgs false
set_option linter.unusedVariables false
namespace Go.Al
open Go.RowKit
theorem Ext.grown {W W' : World} {M : Nat → Prop} (h : Ext M W W') (hM : ∀ k, ¬ M k) : Grown W W' := by
  have same : ∀ k, k < W.heap.size → W'.heap[k]? = W.heap[k]? := fun k hk => h.keep k hk (hM k)
  refine ⟨⟨h.os, h.output, fun i hi => ?_⟩, fun a => ?_, h.size⟩
  · rw [same i hi]
    cases e : W.heap[i]? with
    | none => rfl
    | some o => cases o <;> simp
  · unfold World.frozen?
    by_cases hk : a.block < W.heap.size
    · rw [same _ hk]
    · have e0 : W.heap[a.block]? = none := Array.getElem?_eq_none (by omega)
      rw [e0]
      cases e : W'.heap[a.block]? with
      | none => rfl
      | some o =>
        cases o with
        | cells c t z =>
          rcases h.fz _ _ _ _ e with hz | ⟨c0, t0, h0⟩
          · subst hz; simp
          · rw [e0] at h0; cases h0
        | _ => rfl
theorem pcon_calls {E : Env} {g : FuncId} {args : List AV} {v : AV} (h : PCon E g args v) {W : World} {S0 : Seal} {vs : List Value} (hst : St E ⟨W, dom emp, S0⟩ S0 emp W) (ha : LRel S0 W args vs) :
    Calls E.P g vs.toArray W fun e W' => ∃ S' x, e = .returned x ∧ VRel S' W' v x ∧ Grown W W' := by
  refine (h.2 W S0 vs hst ha).mono fun e W' ⟨ae, H', S', h1, h2, h3, h4⟩ => ?_
  subst h3; subst h4
  simp only [ERel] at h2
  obtain ⟨x, rfl, hx⟩ := h2
  exact ⟨S', x, rfl, hx, h1.ext.grown fun k hk => hk rfl⟩
end Go.Al
