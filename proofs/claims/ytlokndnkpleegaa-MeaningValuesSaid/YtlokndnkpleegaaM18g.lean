/- Chapter 18: how a run in the midst lies in memory. -/
import Derived.Test.YtlokndnkpleegaaM18d
import Derived.Test.YtlokndnkpleegaaAlDf
set_option linter.unusedSimpArgs false
set_option linter.unusedVariables false
set_option maxRecDepth 10000
namespace Go.Al
mutual
def cE (rs : Str → Bool × Int) : Ex → List AV
  | .mk k o n s l => [.int .i64 k, .int .i64 o, .int .u32 n, .bool (rs s).1, .int .i64 (rs s).2, .isl 6 (cEs rs l)]
def cEs (rs : Str → Bool × Int) : List Ex → List (List AV)
  | [] => []
  | e :: l => cE rs e :: cEs rs l
end
theorem cEs_map (rs : Str → Bool × Int) : ∀ l : List Ex, cEs rs l = l.map (cE rs)
  | [] => by simp only [cEs, List.map_nil]
  | e :: l => by simp only [cEs, List.map_cons, cEs_map rs l]
theorem cE_eq (rs : Str → Bool × Int) (e : Ex) : cE rs e = [.int .i64 e.kind, .int .i64 e.op, .int .u32 e.num, .bool (rs e.name).1, .int .i64 (rs e.name).2, .isl 6 (e.kids.map (cE rs))] := by
  cases e; simp only [cE, cEs_map, Ex.kind, Ex.op, Ex.num, Ex.name, Ex.kids]
mutual
def cS (rs : Str → Bool × Int) : Sm → List AV
  | .mk k s l t u => [.int .i64 k, .bool (rs s).1, .int .i64 (rs s).2, .isl 6 (l.map (cE rs)), .isl 6 (cSs rs t), .isl 6 (cSs rs u)]
def cSs (rs : Str → Bool × Int) : List Sm → List (List AV)
  | [] => []
  | e :: l => cS rs e :: cSs rs l
end
theorem cSs_map (rs : Str → Bool × Int) : ∀ l : List Sm, cSs rs l = l.map (cS rs)
  | [] => by simp only [cSs, List.map_nil]
  | e :: l => by simp only [cSs, List.map_cons, cSs_map rs l]
theorem cS_eq (rs : Str → Bool × Int) (e : Sm) : cS rs e = [.int .i64 e.kind, .bool (rs e.name).1, .int .i64 (rs e.name).2, .isl 6 (e.es.map (cE rs)), .isl 6 (e.thn.map (cS rs)), .isl 6 (e.els.map (cS rs))] := by
  cases e; simp only [cS, cSs_map, Sm.kind, Sm.name, Sm.es, Sm.thn, Sm.els]
def Cf.row (f : Cf) : List AV := [.int .i64 f.words, .isl 6 (f.body.map (cS f.res))]
def rowU (n : Int) : List AV := [.int .u32 n]
def rowB (c : UInt8) : List AV := [.int .u8 c.toNat]
def arrRows : List Nat → List (List Int) → List (List AV)
  | b :: bs, l :: ls => [.osl 1 b l.length] :: arrRows bs ls
  | _, _ => []
theorem arrRows_get : ∀ (bs : List Nat) (ls : List (List Int)) (i : Nat) b l, bs[i]? = some b → ls[i]? = some l → (arrRows bs ls)[i]? = some [.osl 1 b l.length]
  | [], _, i, b, l, h, _ => by simp at h
  | b0 :: bs, [], i, b, l, _, h => by simp at h
  | b0 :: bs, l0 :: ls, 0, b, l, h, h' => by
    simp only [List.getElem?_cons_zero, Option.some.injEq] at h h'
    subst h; subst h'; simp [arrRows]
  | b0 :: bs, l0 :: ls, i + 1, b, l, h, h' => by
    simp only [List.getElem?_cons_succ] at h h'
    simp only [arrRows, List.getElem?_cons_succ]
    exact arrRows_get bs ls i b l h h'
theorem arrRows_set : ∀ (bs : List Nat) (ls : List (List Int)) (i : Nat) (f : List Int → List Int), (∀ l, (f l).length = l.length) → arrRows bs (ls.modify i f) = arrRows bs ls
  | [], ls, i, f, _ => by simp [arrRows]
  | b :: bs, [], i, f, _ => by simp [arrRows]
  | b :: bs, l :: ls, 0, f, h => by simp [arrRows, h]
  | b :: bs, l :: ls, i + 1, f, h => by simp [arrRows, arrRows_set bs ls i f h]
theorem arrRows_len : ∀ (bs : List Nat) (ls : List (List Int)), bs.length = ls.length → (arrRows bs ls).length = ls.length
  | [], [], _ => rfl
  | b :: bs, l :: ls, h => by simp [arrRows, arrRows_len bs ls (by simpa using h)]
  | [], _ :: _, h => by simp at h
  | _ :: _, [], h => by simp at h
/-- a run in the midst: its block br; the variables' block bv; the arrays' blocks; what has been put out -/
structure RunH (cx : Cx) (br bv : Nat) (abs : List Nat) (st : RS) (vo : AV) (H : Hp) : Prop where
  r : H br = some (.rows 8 [[.isl 2 (cx.funs.map Cf.row), .osl 1 bv st.vars.length, .isl 1 (arrRows abs st.arrs), .str cx.inp, .int .i64 st.read, vo, .int .i64 st.ticks, .int .i64 cx.fuel]])
  v : H bv = some (.rows 1 (st.vars.map rowU))
  al : abs.length = st.arrs.length
  a : ∀ (i : Nat) b l, abs[i]? = some b → st.arrs[i]? = some l → H b = some (.rows 1 (l.map rowU))
  nd : abs.Nodup
  va : bv ∉ abs
  o : OwnL 1 vo (st.out.map rowB) H
  ov : off vo bv
  oa : ∀ b ∈ abs, off vo b
  uv : ∀ x ∈ st.vars, u32R x
  ua : ∀ l ∈ st.arrs, l.length ≤ 4096 ∧ ∀ x ∈ l, u32R x
  ub : st.out.length ≤ 65536
  rd : st.read ≤ cx.inp.length
  tk : st.ticks ≤ cx.fuel
/-- what a piece of a run leaves alone -/
def keepsR (br bv : Nat) (abs : List Nat) (vo vo' : AV) (H H' : Hp) : Prop := ∀ b o, H b = some o → b ≠ br → b ≠ bv → b ∉ abs → off vo b → H' b = some o ∧ off vo' b
/-- .. that may turn the words in bo -/
def keepsS (br bv : Nat) (abs : List Nat) (vo vo' : AV) (bo : Nat) (H H' : Hp) : Prop := ∀ b o, H b = some o → b ≠ br → b ≠ bv → b ∉ abs → off vo b → b ≠ bo → H' b = some o ∧ off vo' b
structure OwnB (bv : Nat) (abs : List Nat) (vo : AV) (b : Nat) (rows : List (List AV)) (H : Hp) : Prop where
  h : H b = some (.rows 1 rows)
  nv : b ≠ bv
  na : b ∉ abs
  nf : off vo b
theorem keepsR.refl (br bv : Nat) (abs : List Nat) (vo : AV) (H : Hp) : keepsR br bv abs vo vo H H := fun _ _ h _ _ _ ho => ⟨h, ho⟩
theorem keepsR.trans {br bv : Nat} {abs : List Nat} {vo vo1 vo2 : AV} {H H1 H2 : Hp} (h : keepsR br bv abs vo vo1 H H1) (h' : keepsR br bv abs vo1 vo2 H1 H2) : keepsR br bv abs vo vo2 H H2 := fun b o hb h1 h2 h3 h4 => by
  obtain ⟨g1, g2⟩ := h b o hb h1 h2 h3 h4
  exact h' b o g1 h1 h2 h3 g2
theorem keepsR.s {br bv : Nat} {abs : List Nat} {vo vo1 : AV} {H H1 : Hp} (h : keepsR br bv abs vo vo1 H H1) (bo : Nat) : keepsS br bv abs vo vo1 bo H H1 := fun b o hb h1 h2 h3 h4 _ => h b o hb h1 h2 h3 h4
theorem keepsS.trans {br bv bo : Nat} {abs : List Nat} {vo vo1 vo2 : AV} {H H1 H2 : Hp} (h : keepsS br bv abs vo vo1 bo H H1) (h' : keepsS br bv abs vo1 vo2 bo H1 H2) : keepsS br bv abs vo vo2 bo H H2 := fun b o hb h1 h2 h3 h4 h5 => by
  obtain ⟨g1, g2⟩ := h b o hb h1 h2 h3 h4 h5
  exact h' b o g1 h1 h2 h3 g2 h5
theorem keepsR.updN {br bv : Nat} {abs : List Nat} {vo vo1 : AV} {H H1 : Hp} (h : keepsR br bv abs vo vo1 H H1) {b : Nat} (hb : H b = none) (o : Option AObj) : keepsR br bv abs vo vo1 H (Go.Al.upd H1 b o) := fun b' o' hb' h1 h2 h3 h4 => by
  obtain ⟨g1, g2⟩ := h b' o' hb' h1 h2 h3 h4
  have : b' ≠ b := fun e => by rw [e, hb] at hb'; cases hb'
  exact ⟨by rw [upd_ne _ _ this]; exact g1, g2⟩
/-- a piece of which nothing is said of bo, where bo is new -/
theorem keepsS.new {br bv bo : Nat} {abs : List Nat} {vo vo1 : AV} {H H1 : Hp} {o : Option AObj} (hn : H bo = none) (h : keepsS br bv abs vo vo1 bo (Go.Al.upd H bo o) H1) : keepsR br bv abs vo vo1 H H1 := fun b o' hb h1 h2 h3 h4 => by
  have : b ≠ bo := fun e => by rw [e, hn] at hb; cases hb
  exact h b o' (by rw [upd_ne _ _ this]; exact hb) h1 h2 h3 h4 this
theorem keepsR.new {br bv bo : Nat} {abs : List Nat} {vo vo1 : AV} {H H1 : Hp} {o : Option AObj} (hn : H bo = none) (h : keepsR br bv abs vo vo1 (Go.Al.upd H bo o) H1) : keepsR br bv abs vo vo1 H H1 := keepsS.new hn (h.s bo)
section
variable {cx : Cx} {br bv : Nat} {abs : List Nat} {st : RS} {vo : AV} {H : Hp}
theorem RunH.nbr (h : RunH cx br bv abs st vo H) {b : Nat} {l : List (List AV)} (hb : H b = some (.rows 1 l)) : b ≠ br := fun e => by rw [e, h.r] at hb; cases hb
theorem OwnB.keep {b : Nat} {rows : List (List AV)} (h : OwnB bv abs vo b rows H) (hr : RunH cx br bv abs st vo H) {vo' : AV} {H' : Hp} (hk : keepsR br bv abs vo vo' H H') : OwnB bv abs vo' b rows H' := by
  obtain ⟨g1, g2⟩ := hk b _ h.h (hr.nbr h.h) h.nv h.na h.nf
  exact ⟨g1, h.nv, h.na, g2⟩
theorem RunH.abs_some (h : RunH cx br bv abs st vo H) {b : Nat} (hb : b ∈ abs) : H b ≠ none := by
  obtain ⟨i, hi⟩ := List.getElem?_of_mem hb
  have hl : i < st.arrs.length := by have := (List.getElem?_eq_some_iff.1 hi).1; rw [← h.al]; exact this
  rw [h.a i b _ hi (List.getElem?_eq_getElem hl)]
  exact Option.some_ne_none _
/-- a new block -/
theorem RunH.new (h : RunH cx br bv abs st vo H) {b : Nat} (hb : H b = none) (o : Option AObj) : RunH cx br bv abs st vo (upd H b o) := by
  have n1 : br ≠ b := fun e => by have := h.r; rw [e, hb] at this; cases this
  have n2 : bv ≠ b := fun e => by have := h.v; rw [e, hb] at this; cases this
  refine { h with r := by rw [upd_ne _ _ n1]; exact h.r, v := by rw [upd_ne _ _ n2]; exact h.v, a := fun i b' l h1 h2 => ?_, o := h.o.upd hb o }
  have n3 : b' ≠ b := fun e => h.abs_some (List.mem_of_getElem? h1) (by rw [e, hb])
  rw [upd_ne _ _ n3]; exact h.a i b' l h1 h2
theorem RunH.fresh (h : RunH cx br bv abs st vo H) {b : Nat} (hb : H b = none) (rows : List (List AV)) : OwnB bv abs vo b rows (upd H b (some (.rows 1 rows))) :=
  ⟨upd_same _ _ _, (fun e => by have := h.v; rw [← e, hb] at this; cases this), (fun e => h.abs_some e hb), h.o.new hb⟩
theorem OwnB.new {b b' : Nat} {rows : List (List AV)} (h : OwnB bv abs vo b rows H) (hb : H b' = none) (o : Option AObj) : OwnB bv abs vo b rows (upd H b' o) :=
  ⟨by rw [upd_ne _ _ (fun e => by have := h.h; rw [e, hb] at this; cases this)]; exact h.h, h.nv, h.na, h.nf⟩
/-- the words of a block that is not the run's -/
theorem RunH.own (h : RunH cx br bv abs st vo H) {b : Nat} {rows : List (List AV)} (hb : OwnB bv abs vo b rows H) (o : Option AObj) : RunH cx br bv abs st vo (upd H b o) := by
  have n1 : br ≠ b := fun e => h.nbr hb.h e.symm
  have n2 : bv ≠ b := fun e => hb.nv e.symm
  refine { h with r := by rw [upd_ne _ _ n1]; exact h.r, v := by rw [upd_ne _ _ n2]; exact h.v, a := fun i b' l h1 h2 => ?_, o := h.o.off hb.nf o }
  have n3 : b' ≠ b := fun e => hb.na (e ▸ List.mem_of_getElem? h1)
  rw [upd_ne _ _ n3]; exact h.a i b' l h1 h2
theorem OwnB.set {b : Nat} {rows rows' : List (List AV)} (h : OwnB bv abs vo b rows H) : OwnB bv abs vo b rows' (upd H b (some (.rows 1 rows'))) := ⟨upd_same _ _ _, h.nv, h.na, h.nf⟩
theorem keepsS.set {vo' : AV} {b : Nat} {H' : Hp} (h : keepsS br bv abs vo vo' b H H') (o : Option AObj) : keepsS br bv abs vo vo' b H (upd H' b o) := fun b' o' hb h1 h2 h3 h4 h5 => by
  obtain ⟨g1, g2⟩ := h b' o' hb h1 h2 h3 h4 h5
  exact ⟨by rw [upd_ne _ _ h5]; exact g1, g2⟩
theorem RunH.same {H' : Hp} (h : RunH cx br bv abs st vo H) (he : ∀ b, H' b = H b) : RunH cx br bv abs st vo H' := by
  have : H' = H := funext he
  rw [this]; exact h
/-- a row of the run's block turned: ticks, the place in the input -/
theorem RunH.turn (h : RunH cx br bv abs st vo H) {st' : RS} (hv : st'.vars = st.vars) (ha : st'.arrs = st.arrs) (ho : st'.out = st.out) (hrd : st'.read ≤ cx.inp.length) (htk : st'.ticks ≤ cx.fuel) :
    RunH cx br bv abs st' vo (upd H br (some (.rows 8 [[.isl 2 (cx.funs.map Cf.row), .osl 1 bv st'.vars.length, .isl 1 (arrRows abs st'.arrs), .str cx.inp, .int .i64 st'.read, vo, .int .i64 st'.ticks, .int .i64 cx.fuel]]))) := by
  have n2 : bv ≠ br := h.nbr h.v
  have hob : off vo br := h.o.offsz h.r (by decide)
  refine ⟨upd_same _ _ _, by rw [upd_ne _ _ n2, hv]; exact h.v, by rw [ha]; exact h.al, fun i b' l h1 h2 => ?_, h.nd, h.va, by rw [ho]; exact h.o.off hob _, h.ov, h.oa, by rw [hv]; exact h.uv, by rw [ha]; exact h.ua, by rw [ho]; exact h.ub, hrd, htk⟩
  rw [ha] at h2
  have hb' := h.a i b' l h1 h2
  rw [upd_ne _ _ (h.nbr hb')]; exact hb'
theorem keepsR.run (o : Option AObj) : keepsR br bv abs vo vo H (upd H br o) := fun b' o' hb h1 _ _ h4 => ⟨by rw [upd_ne _ _ h1]; exact hb, h4⟩
theorem keepsR.vars (o : Option AObj) : keepsR br bv abs vo vo H (upd H bv o) := fun b' o' hb _ h2 _ h4 => ⟨by rw [upd_ne _ _ h2]; exact hb, h4⟩
theorem keepsR.arr {b : Nat} (hb : b ∈ abs) (o : Option AObj) : keepsR br bv abs vo vo H (upd H b o) := fun b' o' hb' _ _ h3 h4 => ⟨by rw [upd_ne _ _ (fun e => h3 (by rw [e]; exact hb))]; exact hb', h4⟩
theorem map_set_U (l : List Int) (i : Nat) (v : Int) : (l.map rowU).set i [.int .u32 v] = (l.set i v).map rowU := by rw [List.map_set]; rfl
/-- a variable is set -/
theorem RunH.setV (h : RunH cx br bv abs st vo H) (i : Nat) (v : Int) (hv : u32R v) : RunH cx br bv abs { st with vars := st.vars.set i v } vo (upd H bv (some (.rows 1 ((st.vars.map rowU).set i [.int .u32 v])))) := by
  have n2 : br ≠ bv := fun e => h.nbr h.v e.symm
  refine ⟨?_, by rw [upd_same, map_set_U], h.al, fun i b' l h1 h2 => ?_, h.nd, h.va, h.o.off h.ov _, h.ov, h.oa, fun x hx => ?_, h.ua, h.ub, h.rd, h.tk⟩
  · rw [upd_ne _ _ n2, List.length_set]; exact h.r
  · rw [upd_ne _ _ (fun e => h.va (by rw [← e]; exact List.mem_of_getElem? h1))]; exact h.a i b' l h1 h2
  · rcases List.mem_or_eq_of_mem_set hx with hx | rfl
    · exact h.uv x hx
    · exact hv
/-- an array's word is set -/
theorem RunH.setA (h : RunH cx br bv abs st vo H) {i : Nat} {b : Nat} {l : List Int} (h1 : abs[i]? = some b) (h2 : st.arrs[i]? = some l) (j : Nat) (v : Int) (hv : u32R v) : RunH cx br bv abs { st with arrs := st.arrs.modify i fun l => l.set j v } vo (upd H b (some (.rows 1 ((l.map rowU).set j [.int .u32 v])))) := by
  have hm := List.mem_of_getElem? h1
  have n1 : br ≠ b := fun e => h.nbr (h.a i b l h1 h2) e.symm
  have n2 : bv ≠ b := fun e => h.va (e ▸ hm)
  refine ⟨?_, by rw [upd_ne _ _ n2]; exact h.v, by simp only [List.length_modify]; exact h.al, fun i' b' l' h1' h2' => ?_, h.nd, h.va, h.o.off (h.oa b hm) _, h.ov, h.oa, h.uv, fun l' hl' => ?_, h.ub, h.rd, h.tk⟩
  · rw [upd_ne _ _ n1]
    simp only
    rw [arrRows_set abs st.arrs i _ (fun l => by simp)]
    exact h.r
  · simp only [List.getElem?_modify] at h2'
    by_cases hi : i = i'
    · subst hi
      rw [h1] at h1'
      cases h1'
      rw [h2] at h2'
      have h2' : l.set j v = l' := by simpa using h2'
      subst h2'
      rw [upd_same, map_set_U]
    · have h2' : st.arrs[i']? = some l' := by simpa [if_neg hi] using h2'
      have : b' ≠ b := fun e => by
        subst e
        exact hi ((List.getElem?_inj (List.getElem?_eq_some_iff.1 h1).1 h.nd).1 (h1.trans h1'.symm))
      rw [upd_ne _ _ this]
      exact h.a i' b' l' h1' h2'
  · obtain ⟨i', hi'⟩ := List.getElem?_of_mem hl'
    rw [List.getElem?_modify] at hi'
    obtain ⟨l0, hl0, rfl⟩ : ∃ l0, st.arrs[i']? = some l0 ∧ (if i = i' then l0.set j v else l0) = l' := by
      cases hq : st.arrs[i']? with
      | none => rw [hq] at hi'; simp at hi'
      | some l0 => rw [hq] at hi'; exact ⟨l0, rfl, by simpa using hi'⟩
    have := h.ua l0 (List.mem_of_getElem? hl0)
    split
    · refine ⟨by simpa using this.1, fun x hx => ?_⟩
      rcases List.mem_or_eq_of_mem_set hx with hx | rfl
      · exact this.2 x hx
      · exact hv
    · exact this
end
/-- the heads of cx's functions -/
structure CxOk (cx : Cx) : Prop where
  inp : cx.inp.length ≤ 2000000
  fuel : cx.fuel < 9223372036854775808
  words : ∀ f ∈ cx.funs, f.words ≤ 3000000
  body : ∀ f ∈ cx.funs, okS f.body
end Go.Al
