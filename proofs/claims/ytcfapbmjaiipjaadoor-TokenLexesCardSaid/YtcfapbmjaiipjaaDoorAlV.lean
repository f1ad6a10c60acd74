/- The little logic: from a law's contract to the card's step, for arguments of whatever types. -/
import Derived.Test.YtcfapbmjaiipjaaDoorAlU
import Derived.Carry
import Derived.OpenShut
set_option linter.unusedSimpArgs false
set_option linter.unusedVariables false
namespace Go.Al
open Go.RowKit Go.ChangeShapes
/-- every block that is there is sealed -/
def old (W : World) : Seal := fun k => k < W.heap.size
theorem pcon_below {E : Env} {g : FuncId} {args : List AV} {v : AV} (h : PCon E g args v) {W : World} {S0 : Seal} {vs : List Value} (hst : St E ⟨W, dom emp, S0⟩ S0 emp W) (ha : LRel S0 W args vs) :
    Calls E.P g vs.toArray W fun e W' => ∃ S' x, e = .returned x ∧ VRel S' W' v x ∧ Grown W W' ∧ Below W.heap.size W W' := by
  refine (h.2 W S0 vs hst ha).mono fun e W' ⟨ae, H', S', h1, h2, h3, h4⟩ => ?_
  subst h3; subst h4
  simp only [ERel] at h2
  obtain ⟨x, rfl, hx⟩ := h2
  have hx2 := h1.ext
  exact ⟨S', x, rfl, hx, hx2.grown fun k hk => hk rfl, hx2.os, hx2.tape, hx2.output, hx2.size, fun k hk => hx2.keep k hk fun c => c rfl⟩
section
variable {H : Type} {enc : TypeId × Value → H} {P : Program}
theorem trodAll_stays (hl : laidOutB P = true) {W W' : World} {sp' : Nat → Bool} : ∀ {ts : List TypeId} {vs : List Value} {ds : List (DataW H)} {ps : List MemPlace}, (∀ t ∈ ts, P.readableRec t = true ∧ t < P.types.size) →
    DataW.TrodAll enc P W 0 (fun _ => true) true ts vs ds ps → (∀ p ∈ ps, W.sameAt W' p) → (∀ p ∈ ps, sp' p.block = true) → DataW.TrodAll enc P W' 0 sp' true ts vs ds ps
  | [], [], [], _, _, h, _, _ => h
  | t :: ts, v :: vs, d :: ds, ps, hr, ⟨p, q, h1, h2, e⟩, hs, hp => by
    subst e
    exact ⟨p, q, WideElems.Trod_stays hl (hr t (by simp)).1 (hr t (by simp)).2 h1 (fun x hx => hs x (by simp [hx])) (fun x hx => hp x (by simp [hx])),
      trodAll_stays hl (fun t ht => hr t (by simp [ht])) h2 (fun x hx => hs x (by simp [hx])) (fun x hx => hp x (by simp [hx])), rfl⟩
  | [], _ :: _, _, _, _, h, _, _ => by simp [DataW.TrodAll] at h
  | [], [], _ :: _, _, _, h, _, _ => by simp [DataW.TrodAll] at h
  | _ :: _, [], _, _, _, h, _, _ => by simp [DataW.TrodAll] at h
  | _ :: _, _ :: _, [], _, _, h, _, _ => by simp [DataW.TrodAll] at h
theorem trodAll_len {W : World} {base : Nat} {sp : Nat → Bool} {held : Bool} : ∀ {ts : List TypeId} {vs : List Value} {ds : List (DataW H)} {ps : List MemPlace}, DataW.TrodAll enc P W base sp held ts vs ds ps → ds.length = ts.length
  | [], [], [], _, _ => rfl
  | _ :: _, _ :: _, _ :: _, _, ⟨_, _, _, h2, _⟩ => by simp [trodAll_len h2]
  | [], _ :: _, _, _, h => by simp [DataW.TrodAll] at h
  | [], [], _ :: _, _, h => by simp [DataW.TrodAll] at h
  | _ :: _, [], _, _, h => by simp [DataW.TrodAll] at h
  | _ :: _, _ :: _, [], _, h => by simp [DataW.TrodAll] at h
/-- A LAW's STEP: its contract at what its arguments stand for, and the spec's plain form. -/
theorem law_step {E : Env} {g : FuncId} {fn : Func} {spec : ChangeSpec} {tb : TypeId} (hl : laidOutB E.P = true) (hr : ∀ t ∈ fn.params.toList, E.P.readableRec t = true ∧ t < E.P.types.size)
    (hrt : fn.resultTypes = #[tb]) (hb : E.P.underlying tb = some .bool) (hvars : spec.vars = [])
    (hspec : ∀ ds : List (DataW H), ds.length = fn.params.toList.length → (spec.fn H ds).results = [.lit (.bool true)] ∧ (spec.fn H ds).args = ds ∧ (spec.fn H ds).vars = [])
    {W : World} {args : Array Value} {ds gs : List (DataW H)} {before : List MemPlace}
    (hW : DataW.Whole enc E.P fn.params.toList spec.vars false W args.toList ds gs before)
    {S0 : Seal} {xs : List AV} (hst : St E ⟨W, dom emp, S0⟩ S0 emp W) (ha : LRel S0 W xs args.toList) (hcon : PCon E g xs (.bool true)) :
    Calls E.P g args W fun e W' => ∃ v, e = .returned v ∧ spec.post enc E.P fn false true false false W args v W' := by
  have hW' := hW
  obtain ⟨p, q, hA, hV, rfl, _, _⟩ := hW
  rw [hvars] at hV
  obtain ⟨rfl, rfl⟩ := trodVars_none hV
  have hlen := trodAll_len hA
  obtain ⟨s1, s2, s3⟩ := hspec ds hlen
  have hc := pcon_below hcon hst ha
  rw [Array.toArray_toList] at hc
  refine hc.mono fun e W' ⟨S', x, he, hx, hg, hbl⟩ => ?_
  subst he
  simp only [VRel] at hx
  subst hx
  simp only [List.append_nil] at hW'
  have hlt : ∀ x ∈ p, x.block < W.heap.size := fun x hx => hW'.lt x hx
  refine ⟨_, rfl, post_of_same (pa := p) (pv := []) hW' ?_ ?_ ?_ (by simp) (hg.frame _) hg.2.1 (ok_one hrt rfl (okWide_bool_mk hb _))⟩
  · intro b sp hd
    rw [hrt]
    simp only [List.append_nil, s1]
    exact trodAll_cons_mk (shut_bool hb _) trodAll_mk0
  · intro sp hsp
    simp only [List.append_nil, s2]
    exact trodAll_stays hl hr hA (fun x hx => hbl.same (hlt x hx)) (fun x hx => hsp x hx)
  · intro sp hsp
    simp only [List.append_nil, s3, hvars]
    rfl
end
end Go.Al
