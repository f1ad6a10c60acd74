/- Chapter 19: a core among a law's arguments. It speaks of no one program. -/
import Derived.Test.YtnfbbjhdflhmjaaDoorCx
import Derived.Test.YtnfbbjhdflhmjaaDoorSy1
set_option linter.unusedSimpArgs false
set_option linter.unusedVariables false
set_option maxRecDepth 10000
namespace Go.Al
open Go.ChangeShapes Go.WideShapes
structure Oq (P : Program) where
 int : TypeId
 u32 : TypeId
 bool : TypeId
 ce : TypeId
 ces : TypeId
 cs : TypeId
 css : TypeId
 cf : TypeId
 cfs : TypeId
 co : TypeId
 uInt : P.underlying int = some (.int .i64)
 uU32 : P.underlying u32 = some (.int .u32)
 uBool : P.underlying bool = some .bool
 uCe : eV P ce = some [(int, 0), (int, 1), (u32, 2), (int, 3), (int, 4), (ces, 5)]
 uCes : P.underlying ces = some (.slice ce)
 uCs : eV P cs = some [(int, 0), (int, 1), (int, 2), (ces, 3), (css, 4), (css, 5)]
 uCss : P.underlying css = some (.slice cs)
 uCf : eV P cf = some [(int, 0), (int, 1), (int, 2), (bool, 3), (css, 4)]
 uCfs : P.underlying cfs = some (.slice cf)
 uCo : eV P co = some [(int, 0), (cfs, 1)]
 c1 : [int, u32, bool, ces, css, cfs].all (fun t => P.cellsOf t == 1) = true
 cCe : P.cellsOf ce = 6
 cCs : P.cellsOf cs = 6
 cCf : P.cellsOf cf = 5
 cCo : P.cellsOf co = 2
section
variable {H : Type} {enc : TypeId × Value → H} {P : Program} {w : World} {sp : Nat → Bool} {held : Bool} (T : Oq P)
theorem Oq.one1 {t : TypeId} (h : t ∈ [T.int, T.u32, T.bool, T.ces, T.css, T.cfs]) : P.cellsOf t = 1 := by
 have := List.all_eq_true.1 T.c1 t h
 simpa using this
theorem M0 {cs : List Value} (h : cs.length = 6) : ∃ a b c d e f, cs = [a, b, c, d, e, f] := by
 match cs, h with
 | [a, b, c, d, e, f], _ => exact ⟨a, b, c, d, e, f, rfl⟩
theorem CE.row_len (e : CE) : e.row.length = 6 := by rw [e.row_eq]; rfl
theorem CS.row_len (s : CS) : s.row.length = 6 := by rw [s.row_eq]; rfl
theorem Uu : ∀ (fuel : Nat) (cs : List Value) (x : DataW H × List MemPlace), DataW.trod enc P w 0 sp held fuel T.ce cs = some x → ∃ e : CE, e.ok ∧ bQ (old w) w e.row cs := by
 intro fuel
 induction fuel using Nat.strongRecOn with
 | _ fuel ih =>
   intro cs x h
   obtain ⟨n, rfl, hl, hf⟩ := fW T.uCe h
   rw [T.cCe] at hl
   obtain ⟨a, b, c, d, e, f, rfl⟩ := M0 hl
   obtain ⟨y0, h0⟩ := hf 0 _ _ rfl
   obtain ⟨y1, h1⟩ := hf 1 _ _ rfl
   obtain ⟨y2, h2⟩ := hf 2 _ _ rfl
   obtain ⟨y3, h3⟩ := hf 3 _ _ rfl
   obtain ⟨y4, h4⟩ := hf 4 _ _ rfl
   obtain ⟨y5, h5⟩ := hf 5 _ _ rfl
   rw [T.one1 (by simp)] at h0 h1 h2 h3 h4 h5
   obtain ⟨k, e0, w0⟩ := eG T.uInt h0
   obtain ⟨o, e1, w1⟩ := eG T.uInt h1
   obtain ⟨m, e2, w2⟩ := eG T.uU32 h2
   obtain ⟨a', e3, w3⟩ := eG T.uInt h3
   obtain ⟨z, e4, w4⟩ := eG T.uInt h4
   obtain ⟨l, w5, w6, v, e5, hv⟩ := eE (row := CE.row) (ok := CE.ok) T.uCes T.cCe (by decide) CE.row_len h5 fun n' cs' y' hn hy => ih n' (by omega) cs' y' hy
   simp at e0 e1 e2 e3 e4 e5
   subst e0; subst e1; subst e2; subst e3; subst e4; subst e5
   refine ⟨.mk k o m a' z l, .mk k o m a' z l (gD w0) (gD w1) (Pi w2) (gD w3) (gD w4) w5 w6, ?_⟩
   rw [CE.row_eq]
   simp only [bQ, bI, CE.kind, CE.op, CE.num, CE.slot, CE.size, CE.kids]
   exact ⟨_, _, rfl, rfl, _, _, rfl, rfl, _, _, rfl, rfl, _, _, rfl, rfl, _, _, rfl, rfl, _, _, rfl, hv, rfl⟩
theorem Sj {fuel : Nat} {cs : List Value} {x : DataW H × List MemPlace} (h : DataW.trod enc P w 0 sp held fuel T.ces cs = some x) : ∃ l : List CE, lS l ∧ ∃ v, cs = [v] ∧ bI (old w) w (.isl 6 (l.map CE.row)) v := by
 obtain ⟨l, h1, h2, h3⟩ := eE (row := CE.row) (ok := CE.ok) T.uCes T.cCe (by decide) CE.row_len h fun n cs y _ hy => Uu T n cs y hy
 exact ⟨l, ⟨h1, h2⟩, h3⟩
theorem Un : ∀ (fuel : Nat) (cs : List Value) (x : DataW H × List MemPlace), DataW.trod enc P w 0 sp held fuel T.cs cs = some x → ∃ e : CS, e.ok ∧ bQ (old w) w e.row cs := by
 intro fuel
 induction fuel using Nat.strongRecOn with
 | _ fuel ih =>
   intro cs x h
   obtain ⟨n, rfl, hl, hf⟩ := fW T.uCs h
   rw [T.cCs] at hl
   obtain ⟨a, b, c, d, e, f, rfl⟩ := M0 hl
   obtain ⟨y0, h0⟩ := hf 0 _ _ rfl
   obtain ⟨y1, h1⟩ := hf 1 _ _ rfl
   obtain ⟨y2, h2⟩ := hf 2 _ _ rfl
   obtain ⟨y3, h3⟩ := hf 3 _ _ rfl
   obtain ⟨y4, h4⟩ := hf 4 _ _ rfl
   obtain ⟨y5, h5⟩ := hf 5 _ _ rfl
   rw [T.one1 (by simp)] at h0 h1 h2 h3 h4 h5
   obtain ⟨k, e0, w0⟩ := eG T.uInt h0
   obtain ⟨a', e1, w1⟩ := eG T.uInt h1
   obtain ⟨z, e2, w2⟩ := eG T.uInt h2
   obtain ⟨l, w3, v3, e3, hv3⟩ := Sj T h3
   obtain ⟨t, w4, w4', v4, e4, hv4⟩ := eE (row := CS.row) (ok := CS.ok) T.uCss T.cCs (by decide) CS.row_len h4 fun n' cs' y' hn hy => ih n' (by omega) cs' y' hy
   obtain ⟨u, w5, w5', v5, e5, hv5⟩ := eE (row := CS.row) (ok := CS.ok) T.uCss T.cCs (by decide) CS.row_len h5 fun n' cs' y' hn hy => ih n' (by omega) cs' y' hy
   simp at e0 e1 e2 e3 e4 e5
   subst e0; subst e1; subst e2; subst e3; subst e4; subst e5
   refine ⟨.mk k a' z l t u, .mk k a' z l t u (gD w0) (gD w1) (gD w2) w3 w4 w4' w5 w5', ?_⟩
   rw [CS.row_eq]
   simp only [bQ, bI, CS.kind, CS.slot, CS.size, CS.es, CS.thn, CS.els]
   exact ⟨_, _, rfl, rfl, _, _, rfl, rfl, _, _, rfl, rfl, _, _, rfl, hv3, _, _, rfl, hv4, _, _, rfl, hv5, rfl⟩
theorem Ut (fuel : Nat) (cs : List Value) (x : DataW H × List MemPlace) (h : DataW.trod enc P w 0 sp held fuel T.cf cs = some x) : ∃ f : CF, f.ok ∧ bQ (old w) w f.row cs := by
 obtain ⟨n, rfl, hl, hf⟩ := fW T.uCf h
 rw [T.cCf] at hl
 obtain ⟨a, b, c, d, e, rfl⟩ := Uj hl
 obtain ⟨y0, h0⟩ := hf 0 _ _ rfl
 obtain ⟨y1, h1⟩ := hf 1 _ _ rfl
 obtain ⟨y2, h2⟩ := hf 2 _ _ rfl
 obtain ⟨y3, h3⟩ := hf 3 _ _ rfl
 obtain ⟨y4, h4⟩ := hf 4 _ _ rfl
 rw [T.one1 (by simp)] at h0 h1 h2 h3 h4
 obtain ⟨k, e0, w0⟩ := eG T.uInt h0
 obtain ⟨a', e1, w1⟩ := eG T.uInt h1
 obtain ⟨z, e2, w2⟩ := eG T.uInt h2
 obtain ⟨bw, e3, _⟩ := DataW.trod_bool T.uBool h3
 obtain ⟨l, w4, w5, v4, e4, hv4⟩ := eE (row := CS.row) (ok := CS.ok) T.uCss T.cCs (by decide) CS.row_len h4 fun n cs y _ hy => Un T n cs y hy
 simp at e0 e1 e2 e3 e4
 subst e0; subst e1; subst e2; subst e3; subst e4
 refine ⟨⟨k, a', z, bw, l⟩, ⟨gD w0, gD w1, gD w2, w4, w5⟩, ?_⟩
 simp only [CF.row, bQ, bI]
 exact ⟨_, _, rfl, rfl, _, _, rfl, rfl, _, _, rfl, rfl, _, _, rfl, rfl, _, _, rfl, hv4, rfl⟩
theorem Uo {fuel : Nat} {cs : List Value} {x : DataW H × List MemPlace} (h : DataW.trod enc P w 0 sp held fuel T.co cs = some x) : ∃ c : Co, c.ok ∧ bQ (old w) w c.row cs := by
 obtain ⟨n, rfl, hl, hf⟩ := fW T.uCo h
 rw [T.cCo] at hl
 obtain ⟨a, b, rfl⟩ := Wj hl
 obtain ⟨y0, h0⟩ := hf 0 _ _ rfl
 obtain ⟨y1, h1⟩ := hf 1 _ _ rfl
 rw [T.one1 (by simp)] at h0 h1
 obtain ⟨k, e0, w0⟩ := eG T.uInt h0
 obtain ⟨fs, w1, w2, v1, e1, hv1⟩ := eE (row := CF.row) (ok := CF.ok) T.uCfs T.cCf (by decide) (fun _ => rfl) h1 fun n cs y _ hy => Ut T n cs y hy
 simp at e0 e1
 subst e0; subst e1
 refine ⟨⟨k, fs⟩, ⟨gD w0, w1, w2⟩, ?_⟩
 simp only [Co.row, bQ, bI]
 exact ⟨_, _, rfl, rfl, _, _, rfl, hv1, rfl⟩
theorem xD {r : Reach} {b0 : Nat} {v : Value} {d : DataW H} {ps : List MemPlace} (hu : ∃ fs, P.underlying T.co = some (.struct fs)) (hval : Value.okWide P w r b0 T.co v) (hd : DataW.Trod enc P w 0 sp held T.co v d ps) : ∃ c : Co, c.ok ∧ bI (old w) w c.av v := by
 obtain ⟨fs, hu⟩ := hu
 obtain ⟨cs, rfl, _⟩ := okWide_struct hu hval
 obtain ⟨fuel, hf⟩ := hd
 obtain ⟨c, h1, h2⟩ := Uo T hf
 refine ⟨c, h1, ?_⟩
 simp only [Co.av, bI]
 exact ⟨cs.toList, by simp, h2⟩
end
theorem Qk {H : Type} {enc : TypeId × Value → H} {P : Program} {w : World} {sp : Nat → Bool} {held : Bool} {t e : TypeId} {r : Reach} {b0 : Nat} {v : Value} {d : DataW H} {ps : List MemPlace} (ht : P.underlying t = some (.array 2 e)) (he : P.underlying e = some (.int .i64)) (hc : P.cellsOf e = 1) (hct : P.cellsOf t = 2) (hval : Value.okWide P w r b0 t v) (hd : DataW.Trod enc P w 0 sp held t v d ps) :
  ∃ a b : Int, v = .agg #[.int .i64 a, .int .i64 b] ∧ cX a ∧ cX b := by
 simp only [Value.okWide, ht] at hval
 obtain ⟨cs, rfl, _⟩ := hval
 obtain ⟨fuel, hf⟩ := hd
 obtain ⟨xs, m, _, _, h3, h4, h5⟩ := DataW.trod_array ht hf
 have h0 := h5 0 (by decide)
 have h1 := h5 1 (by decide)
 rw [hct] at h3
 rw [hc] at h0 h1
 obtain ⟨y0, y1, rfl⟩ : ∃ a b, xs = [a, b] := by
  match xs, h4 with
  | [a, b], _ => exact ⟨a, b, rfl⟩
 have hcs : ∃ a b, cs.toList = [a, b] := Wj (show cs.toList.length = 2 from h3)
 obtain ⟨a, b, hab⟩ := hcs
 have hcs2 : cs = #[a, b] := by rw [← Array.toArray_toList (xs := cs), hab]
 subst hcs2
 replace h0 : DataW.trod enc P w 0 sp held m e [a] = some y0 := h0
 replace h1 : DataW.trod enc P w 0 sp held m e [b] = some y1 := h1
 obtain ⟨na, ea, wa⟩ := eG he h0
 obtain ⟨nb, eb, wb⟩ := eG he h1
 simp at ea eb
 subst ea; subst eb
 exact ⟨na, nb, rfl, gD wa, gD wb⟩
end Go.Al
