/- The little logic: regions that draw their order, where several operations that are not calm may come first: order by order. -/
import Derived.Test.YtlokndnkpleegaaAlDf
set_option linter.unusedSimpArgs false
set_option linter.unusedVariables false
set_option maxRecDepth 10000
namespace Go.Al
section
variable {E : Env} {F : Nat → Prop} {ops : Array Oper} {Q : APost} {fr : Fr} {H : Hp}
theorem awp_region_any (F : Nat → Prop) {N id : Nat} {l : List Oper} (hm : E.P.follows .mixedOrders = true) (hd : l.all (dstOk N) = true) (h : l.toArray.toList.all (dstOk N) = true → AAnyG E (fun _ => F) l.toArray Q l.length (Array.replicate l.length false) fr H) : awp E N (.region id l.toArray true) Q fr H := fun γ a w hs => by
  have hd' : l.toArray.toList.all (dstOk N) = true := by simpa using hd
  have := wp_region_any hm (AAnyG_sound (G := fun _ => F) hd' l.length (Array.replicate l.length false) fr H a _ hs.drew (h hd')) (id := id)
  simpa using this
theorem any_plan {N n m : Nat} {L L' : Array Bool} {l' : List Oper} (plan : List (Nat × Nat)) (hd : ops.toList.all (dstOk N) = true) (hn : n = plan.length + m) (hc : chkT ops [] L plan = true) (hL : doneL L plan = L') (he : emitF ops.toList plan = l')
    (h : awpL E F (ops.toList.map (·.dst)) (thenQ (fun fr' H' => AAnyG E (fun _ => F) ops Q m L' fr' H') Q) l' fr H) : AAnyG E (fun _ => F) ops Q n L fr H := by
  subst hn; subst hL; subst he
  exact AAnyG_plan (T := []) (fun _ _ => rfl) hd plan L fr H hc h
def brB (E : Env) (F : Nat → Prop) (ops : Array Oper) (Q : APost) (n : Nat) (L : Array Bool) (fr : Fr) (H : Hp) : List Nat → Prop
  | [] => True
  | i :: r => (match ops[i]? with | some o => awpL E F (ops.toList.map (·.dst)) (thenQ (fun fr' H' => AAnyG E (fun _ => F) ops Q n (L.setIfInBounds i true) fr' H') Q) [o] fr H | none => True) ∧ brB E F ops Q n L fr H r
theorem brB_mem {n : Nat} {L : Array Bool} : ∀ {l : List Nat}, brB E F ops Q n L fr H l → ∀ i ∈ l, ∀ o, ops[i]? = some o → awpL E F (ops.toList.map (·.dst)) (thenQ (fun fr' H' => AAnyG E (fun _ => F) ops Q n (L.setIfInBounds i true) fr' H') Q) [o] fr H
  | j :: l, h, i, hi, o, ho => by
    simp only [brB] at h
    rcases List.mem_cons.1 hi with rfl | hi
    · rw [ho] at h; exact h.1
    · exact brB_mem h.2 i hi o ho
theorem any_branch {N n : Nat} {L : Array Bool} {rl : List Nat} (hd : ops.toList.all (dstOk N) = true) (hr : Region.ready .any ops L = rl) (hne : rl ≠ []) (h : brB E F ops Q n L fr H rl) : AAnyG E (fun _ => F) ops Q (n + 1) L fr H := by
  refine ⟨fun e => absurd (hr.symm.trans e) hne, fun i hi o ho => ?_⟩
  have := brB_mem h i (by rw [← hr]; exact hi) o ho
  have hdo : dstOk N o = true := by
    rw [List.all_eq_true] at hd
    exact hd o (Array.mem_toList_iff.2 (Array.mem_of_getElem? ho))
  rw [awpL_cons hdo] at this
  exact this
theorem any_done {L : Array Bool} (hr : Region.ready .any ops L = []) (h : Q .normal fr H) : AAnyG E (fun _ => F) ops Q 0 L fr H := ⟨hr, h⟩
end
end Go.Al
