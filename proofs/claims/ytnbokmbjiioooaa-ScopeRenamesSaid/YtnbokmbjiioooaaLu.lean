/- Chapter 16: ScopeUnknown's contract. -/
import Derived.Test.YtnbokmbjiioooaaLw
import Derived.Test.YtnbokmbjiioooaaSy1
set_option linter.unusedSimpArgs false
set_option linter.unusedVariables false
namespace Go.Al
theorem usesS_append (a b : List Sm) : usesS (a ++ b) = usesS a ++ usesS b := by
  induction a with
  | nil => rw [List.nil_append, usesS, List.nil_append]
  | cons x a ih => rw [List.cons_append, usesS_cons, usesS_cons, ih]; simp only [List.append_assoc]
theorem szS_append (a b : List Sm) : szS (a ++ b) = szS a + szS b := by
  induction a with
  | nil => rw [List.nil_append, szS, Nat.zero_add]
  | cons x a ih => rw [List.cons_append, szS, szS, ih, Nat.add_assoc]
/-- a statement that uses a name -/
def unkX (j : Nat) (s : Str) : Sm := match j with
  | 0 => .mk 3 [] [.mk 2 0 0 s []] [] []
  | 1 => .mk 3 [] [.mk 3 0 0 s [.mk 1 0 0 [] []]] [] []
  | 2 => .mk 3 [] [.mk 4 0 0 s []] [] []
  | 3 => .mk 1 s [.mk 1 0 1 [] []] [] []
  | 4 => .mk 2 s [.mk 1 0 0 [] [], .mk 1 0 1 [] []] [] []
  | _ => .mk 6 s [] [] []
theorem unkX_uses (j : Nat) (s : Str) : ∃ u ∈ usesS [unkX j s], u.name = s ∧ (u.kind = 1 ∨ u.kind = 3 ∨ u.kind = 4) := by
  unfold unkX
  split <;> simp [usesS, usesE, useS, useX, Sm.kind, Sm.name, Sm.es, Ex.kind, Ex.name, Ex.kids]
theorem unkX_sz (j : Nat) (s : Str) : (unkX j s).sz ≤ 5 := by
  unfold unkX
  split <;> simp [Sm.sz, szE, szS, Ex.sz]
theorem okE_nil' : okE [] := ⟨(by simp [fitL]), fun e h => by cases h⟩
theorem ex_ok' (k n : Int) (hk : i64R k) (hn : u32R n) {s : Str} (hs : fitL s) {l : List Ex} (hl : okE l) : (Ex.mk k 0 n s l).ok := .mk _ _ _ _ _ hk (by simp [i64R]) hn hs hl.fit hl.all
theorem okE_one {e : Ex} (h : e.ok) : okE [e] := ⟨(by simp [fitL]), fun x hx => by rw [List.mem_singleton] at hx; rw [hx]; exact h⟩
theorem okE_two {e f : Ex} (h : e.ok) (h' : f.ok) : okE [e, f] := ⟨(by simp [fitL]), fun x hx => by
  rcases List.mem_cons.1 hx with rfl | hx
  · exact h
  · rw [List.mem_singleton] at hx; rw [hx]; exact h'⟩
theorem sm_ok' (k : Int) (hk : i64R k) {s : Str} (hs : fitL s) {l : List Ex} (hl : okE l) : (Sm.mk k s l [] []).ok := .mk _ _ _ _ _ hk hs hl (by simp [fitL]) (fun e h => by cases h) (by simp [fitL]) (fun e h => by cases h)
theorem fit_nil : fitL ([] : Str) := by simp [fitL]
theorem unkX_ok (j : Nat) {s : Str} (hs : fitL s) : (unkX j s).ok := by
  have n0 : (Ex.mk 1 0 0 [] []).ok := ex_ok' 1 0 (by simp [i64R]) (by simp [u32R]) fit_nil okE_nil'
  have n1 : (Ex.mk 1 0 1 [] []).ok := ex_ok' 1 1 (by simp [i64R]) (by simp [u32R]) fit_nil okE_nil'
  unfold unkX
  split
  · exact sm_ok' 3 (by simp [i64R]) fit_nil (okE_one (ex_ok' 2 0 (by simp [i64R]) (by simp [u32R]) hs okE_nil'))
  · exact sm_ok' 3 (by simp [i64R]) fit_nil (okE_one (ex_ok' 3 0 (by simp [i64R]) (by simp [u32R]) hs (okE_one n0)))
  · exact sm_ok' 3 (by simp [i64R]) fit_nil (okE_one (ex_ok' 4 0 (by simp [i64R]) (by simp [u32R]) hs okE_nil'))
  · exact sm_ok' 1 (by simp [i64R]) hs (okE_one n1)
  · exact sm_ok' 2 (by simp [i64R]) hs (okE_two n0 n1)
  · exact sm_ok' 6 (by simp [i64R]) hs okE_nil'
/-- a statement more at a function's end -/
def moreB (p : Pg) (i : Nat) (g : Fu) (x : Sm) : Pg := ⟨p.vars, p.arrs, p.funs.set i ⟨g.name, g.params, g.locs, g.word, g.body ++ [x]⟩⟩
theorem set_names (l : List Fu) (i : Nat) (g g' : Fu) (h : l[i]? = some g) (hn : g'.name = g.name) : (l.set i g').map Fu.name = l.map Fu.name := by
  refine List.ext_getElem? fun j => ?_
  rw [List.getElem?_map, List.getElem?_map, List.getElem?_set]
  split
  · rename_i e
    subst e
    split
    · rw [h]; simp [hn]
    · rename_i hlt
      rw [List.getElem?_eq_none (by omega)]
  · rfl
theorem moreB_unknown (p : Pg) (i : Nat) (g : Fu) (hg : p.funs[i]? = some g) (x : Sm) (s : Str) (hs : s ∉ allN p) (hu : ∃ u ∈ usesS [x], u.name = s ∧ (u.kind = 1 ∨ u.kind = 3 ∨ u.kind = 4)) : checkI (moreB p i g x) = 4 := by
  have hlt : i < p.funs.length := (List.getElem?_eq_some_iff.1 hg).1
  have hget : (moreB p i g x).funs[i]? = some ⟨g.name, g.params, g.locs, g.word, g.body ++ [x]⟩ := by
    show (p.funs.set i _)[i]? = _
    rw [List.getElem?_set_self hlt]
  have hgl : s ∉ globL p := fun c => hs (by simp only [allN, List.mem_append]; exact .inl c)
  have hnm : s ∉ namesL g := fun c => hs (by
    simp only [allN, List.mem_append, List.mem_flatMap]
    exact .inr ⟨g, List.mem_of_getElem? hg, by simp only [frF, List.mem_append]; exact .inl c⟩)
  have hfind : findF (moreB p i g x) i s = (0, -1) := by
    unfold findF
    rw [hget, findG_eq]
    have h1 : placeN (namesL ⟨g.name, g.params, g.locs, g.word, g.body ++ [x]⟩) s = none := (placeN_none _ _).2 hnm
    simp only [Option.bind_some, h1]
    simp only [globL, List.mem_append, not_or] at hgl
    refine findL_none hgl.1.1 hgl.1.2 ?_
    show s ∉ (p.funs.set i _).map Fu.name
    rw [set_names p.funs i g ⟨g.name, g.params, g.locs, g.word, g.body ++ [x]⟩ hg rfl]
    exact hgl.2
  have : namesB (moreB p i g x) = false := by
    cases hn : namesB (moreB p i g x) with
    | false => rfl
    | true =>
      exfalso
      simp only [namesB, Bool.and_eq_true] at hn
      have h2 := (namesFrom_get _ _ 0 hn.2 i _ hget).2
      rw [Nat.zero_add] at h2
      obtain ⟨u, hu, h3, h4⟩ := hu
      have h5 := List.all_eq_true.1 h2 u (by show u ∈ usesS (g.body ++ [x]); rw [usesS_append]; exact List.mem_append_right _ hu)
      simp only [okUse, h3, hfind] at h5
      rcases h4 with h4 | h4 | h4 <;> simp [h4] at h5
  simp [checkI, this]
theorem moreB_few {p : Pg} (h : p.small) {i : Nat} {g : Fu} (hg : p.funs[i]? = some g) {x : Sm} (hx : x.ok) (hz : x.sz ≤ 500) : (moreB p i g x).few := by
  have hgm := List.mem_of_getElem? hg
  have hgf := h.fs g hgm
  have hgo := h.ok.funs g hgm
  have hbl := len_szS g.body
  refine ⟨⟨h.ok.vars, h.ok.afit, h.ok.arrs, ?_, fun f hf => ?_⟩, h.few.v, h.few.a, ?_, fun f hf => ?_⟩
  · have := h.ok.ffit
    simp only [fitL] at this ⊢
    show (p.funs.set i _).length ≤ _
    rw [List.length_set]; exact this
  · rcases List.mem_or_eq_of_mem_set hf with hf | rfl
    · exact h.ok.funs f hf
    · refine ⟨hgo.name, hgo.params, hgo.locs, ⟨?_, fun e he => ?_⟩⟩
      · simp only [fitL, List.length_append, List.length_singleton]; omega
      · rcases List.mem_append.1 he with he | he
        · exact hgo.body.all e he
        · rw [List.mem_singleton] at he; rw [he]; exact hx
  · show (p.funs.set i _).length ≤ _
    rw [List.length_set]; exact h.few.f
  · rcases List.mem_or_eq_of_mem_set hf with hf | rfl
    · exact h.few.fs f hf
    · simp only [szS_append, szS]
      omega
theorem moreB_av (p : Pg) (i : Nat) (g : Fu) (x : Sm) : (moreB p i g x).av = .agg [.isl 1 (p.vars.map strRow), .isl 2 (p.arrs.map Ar.row), .isl 5 ((p.funs.map Fu.row).set i [.str g.name, .isl 1 (g.params.map strRow), .isl 1 (g.locs.map strRow), .bool g.word, .isl 5 (g.body.map Sm.row ++ [x.row])])] := by
  simp only [Pg.av, Pg.row, moreB, List.map_set, Fu.row, List.map_append]
  rfl
end Go.Al
namespace Go.Proofs.Ytnbokmbjiioooaa
open Go.Al
theorem num_raw (n : Int) : PCon env 19 [.int .u32 n] (.agg [.int .i64 1, .int .i64 0, .int .u32 n, .str [], .nsl]) := by
  refine con_of 5 [.cell 2 47] Try.func19 rfl rfl rfl rfl ?_
  refine awp_seq_k fun K hK => ?_
  refine awp_region rfl ?_
  simp only [RR, seval]
  refine awpN_intro fun b2 hn2 => ?_
  simp only [RR, seval]
  refine hK _ _ ?_; clear hK K
  refine awp_seq_k fun K hK => ?_
  refine awp_region rfl ?_
  simp only [RR, seval]
  refine hK _ _ ?_; clear hK K
  refine awp_ret ?_; simp only [bodyQ, aresult, ares, RR, seval]
  refine Gives.pure ?_
  rfl
theorem put_raw (k o n : Int) (s : Str) (v : AV) (h : one v = true) : PCon env 18 [.agg [.int .i64 k, .int .i64 o, .int .u32 n, .str s, v]] (.agg [.int .i64 3, .str [], .isl 5 [[.int .i64 k, .int .i64 o, .int .u32 n, .str s, v]], .nsl, .nsl]) := by
  refine con_of 6 [.cell 2 43] Try.func18 rfl rfl rfl rfl ?_
  refine awp_seq_k fun K hK => ?_
  refine awp_region rfl ?_
  simp only [h, RR, seval]
  refine awpN_intro fun b1 hn1 => ?_
  simp only [h, RR, seval]
  refine awpN_intro fun b2 hn2 => ?_
  have nb2_b1 : b2 ≠ b1 := fun e => by rw [e] at hn2; simp only [h, RR, seval, reduceCtorEq] at hn2
  have nb1_b2 : b1 ≠ b2 := fun e => nb2_b1 e.symm
  simp only [nb2_b1, nb1_b2, h, RR, seval]
  refine hK _ _ ?_; clear hK K
  refine awp_seq_k fun K hK => ?_
  refine awp_region rfl ?_
  simp only [nb2_b1, nb1_b2, h, RR, seval]
  refine awpB_sealed ?_
  simp only [nb2_b1, nb1_b2, h, RR, seval]
  refine hK _ _ ?_; clear hK K
  refine awp_ret ?_; simp only [bodyQ, aresult, ares, nb2_b1, nb1_b2, h, RR, seval]
  refine Gives.pure ?_
  rfl
theorem ScopeUnknown_con (p : Pg) (hp : p.ok) (w1 : Int) (hw1 : 0 ≤ w1 ∧ w1 ≤ 255) (w2 : Int) (hw2 : 0 ≤ w2 ∧ w2 ≤ 255) : PCon env 6 [p.av, .int .u8 w1, .int .u8 w2] (.bool true) := by
  have hfew := few_con p hp
  have hall := few16_small p hp
  have hav : p.av = .agg p.row := rfl
  have hrow : p.row = [.isl 1 (p.vars.map strRow), .isl 2 (p.arrs.map Ar.row), .isl 5 (p.funs.map Fu.row)] := rfl
  rw [hav, hrow] at hfew ⊢
  cases hc : few16 p with
  | false =>
    rw [hc] at hfew
    refine con_of 86 [.tmp 6] Try.func6 rfl rfl rfl rfl ?_
    refine awp_seq_k fun K hK => ?_
    refine awp_region rfl ?_
    simp only [RR, seval]
    refine awpN_intro fun b3 hn3 => ?_
    simp only [RR, seval]
    refine hK _ _ ?_; clear hK K
    refine awp_seq ?_
    refine awp_seq_k fun K hK => ?_
    refine awp_region rfl ?_
    simp only [RR, seval]
    refine awpC_pure' (alive_con) ?_
    simp only [RR, seval]
    refine hK _ _ ?_; clear hK K
    refine awp_if false rfl (fun hc => by cases hc) (fun _ => ?_)
    refine awp_skip ?_; try simp only [RR]
    refine awp_seq ?_
    refine awp_seq_k fun K hK => ?_
    refine awp_region rfl ?_
    simp only [RR, seval]
    refine awpC_pure' (hfew) ?_
    simp only [RR, seval]
    refine hK _ _ ?_; clear hK K
    refine awp_if true rfl (fun _ => ?_) (fun hc => by cases hc)
    refine awp_seq_k fun K hK => ?_
    refine awp_region rfl ?_
    simp only [RR, seval]
    refine hK _ _ ?_; clear hK K
    refine awp_ret ?_; simp only [bodyQ, aresult, ares, RR, seval]
    refine Gives.pure ?_
    rfl
  | true =>
    rw [hc] at hfew
    obtain ⟨hs, h1, hlen⟩ := hall hc
    have hf := hs.few
    obtain ⟨n, hn1, hn2, hF⟩ := Fresh_con p hf
    have hql : fitL (qn n) := by
      have := digs_len n
      simp only [fitL, qn, List.length_cons]; omega
    obtain ⟨m1, hm1⟩ := Int.eq_ofNat_of_zero_le hw1.1
    obtain ⟨m2, hm2⟩ := Int.eq_ofNat_of_zero_le hw2.1
    subst hm1; subst hm2
    have e1 : IntKind.wrap .i64 (m1 : Int) = (m1 : Int) := by rw [IntWalk.i64_in _ (by omega)]
    have e2 : (m1 : Int).tmod (p.funs.length : Int) = ((m1 % p.funs.length : Nat) : Int) := IntWalk.up_tmod rfl rfl
    have e3 : (m2 : Int).tmod 6 = ((m2 % 6 : Nat) : Int) := IntWalk.up_tmod rfl rfl
    have e4 : ¬ ((p.funs.length : Int) = 0) := by omega
    have hil : m1 % p.funs.length < p.funs.length := Nat.mod_lt _ (by omega)
    generalize hi : m1 % p.funs.length = i at e2 hil
    have hj : m2 % 6 < 6 := Nat.mod_lt _ (by omega)
    generalize m2 % 6 = j at e3 hj
    have hg0 := List.getElem?_eq_getElem hil
    have hg := getF hg0
    have hgm := List.getElem_mem hil
    have hgs := hs.fs _ hgm
    generalize p.funs[i] = g at hg0 hg hgs
    have hgl := len_szS g.body
    have hpl := hs.f
    have c2 := Check_con (moreB p i g (unkX j (qn n))) (moreB_few hs hg0 (unkX_ok j hql) (by have := unkX_sz j (qn n); omega)) (by show 1 ≤ (p.funs.set i _).length; rw [List.length_set]; exact h1)
    rw [moreB_unknown p i g hg0 _ _ hn1 (unkX_uses j _), moreB_av, Sm.row_eq] at c2
    have o1 := one_fus p.funs
    have o2 := one_sms g.body
    have z1 : (i : Int) < (p.funs.length : Int) := by omega
    rw [hav, hrow] at hF
    have q0 := put_raw 2 0 0 (qn n) .nsl rfl
    have q1 := put_raw 3 0 0 (qn n) (.isl 5 [[.int .i64 1, .int .i64 0, .int .u32 0, .str [], .nsl]]) rfl
    have q2 := put_raw 4 0 0 (qn n) .nsl rfl
    have k0 := num_raw 0
    have k1 := num_raw 1
    have hux : unkX j (qn n) = unkX j (qn n) := rfl
    generalize qn n = s at *
    refine con_of 86 [.tmp 6] Try.func6 rfl rfl rfl rfl ?_
    refine awp_seq_k fun K hK => ?_
    refine awp_region rfl ?_
    simp only [List.length_map, e1, e2, e3, e4, z1, hg, o1, o2, RR, seval]
    refine awpN_intro fun b3 hn3 => ?_
    simp only [List.length_map, e1, e2, e3, e4, z1, hg, o1, o2, RR, seval]
    refine hK _ _ ?_; clear hK K
    refine awp_seq ?_
    refine awp_seq_k fun K hK => ?_
    refine awp_region rfl ?_
    simp only [List.length_map, e1, e2, e3, e4, z1, hg, o1, o2, RR, seval]
    refine awpC_pure' (alive_con) ?_
    simp only [List.length_map, e1, e2, e3, e4, z1, hg, o1, o2, RR, seval]
    refine hK _ _ ?_; clear hK K
    refine awp_if false rfl (fun hc => by cases hc) (fun _ => ?_)
    refine awp_skip ?_; try simp only [RR]
    refine awp_seq ?_
    refine awp_seq_k fun K hK => ?_
    refine awp_region rfl ?_
    simp only [List.length_map, e1, e2, e3, e4, z1, hg, o1, o2, RR, seval]
    refine awpC_pure' (hfew) ?_
    simp only [List.length_map, e1, e2, e3, e4, z1, hg, o1, o2, RR, seval]
    refine hK _ _ ?_; clear hK K
    refine awp_if false rfl (fun hc => by cases hc) (fun _ => ?_)
    refine awp_skip ?_; try simp only [RR]
    refine awp_seq_k fun K hK => ?_
    refine awp_region rfl ?_
    simp only [List.length_map, e1, e2, e3, e4, z1, hg, o1, o2, RR, seval]
    refine awpC_pure' (hF) ?_
    simp only [List.length_map, e1, e2, e3, e4, z1, hg, o1, o2, RR, seval]
    refine hK _ _ ?_; clear hK K
    refine awp_seq_k fun K hK => ?_
    refine awp_region rfl ?_
    simp only [List.length_map, e1, e2, e3, e4, z1, hg, o1, o2, RR, seval]
    refine awpN_intro fun b8 hn8 => ?_
    have nb8_b3 : b8 ≠ b3 := fun e => by rw [e] at hn8; simp only [List.length_map, e1, e2, e3, e4, z1, hg, o1, o2, RR, seval, reduceCtorEq] at hn8
    have nb3_b8 : b3 ≠ b8 := fun e => nb8_b3 e.symm
    simp only [nb8_b3, nb3_b8, List.length_map, e1, e2, e3, e4, z1, hg, o1, o2, RR, seval]
    refine hK _ _ ?_; clear hK K
    refine awp_seq ?_
    refine awp_seq_k fun K hK => ?_
    refine awp_region rfl ?_
    simp only [nb8_b3, nb3_b8, List.length_map, e1, e2, e3, e4, z1, hg, o1, o2, RR, seval]
    refine hK _ _ ?_; clear hK K
    refine awp_name fun F1 M1 hfr hH => ?_
    have g1 := hfr 1
    have g3 := hfr 3
    have g6 := hfr 6
    have g7 := hfr 7
    have g8 := hfr 8
    have g20 := hfr 20
    have gb3 := hH b3
    have gb8 := hH b8
    try simp only [nb8_b3, nb3_b8, List.length_map, e1, e2, e3, e4, z1, hg, o1, o2, RR, seval] at g1 g3 g6 g7 g8 g20 gb3 gb8
    have f1 := g1; clear g1
    have f3 := g3; clear g3
    have f6 := g6; clear g6
    have f7 := g7; clear g7
    have f8 := g8; clear g8
    have f20 := g20; clear g20
    have hb3 := gb3; clear gb3
    have hb8 := gb8; clear gb8
    clear hfr hH
    refine awp_cutP (fun fr M => agree [1, 3, 6, 8] F1 fr ∧ M b3 = M1 b3 ∧ ∃ r, M b8 = some (.rows 5 [r]) ∧ SubR r (unkX j s).row) (fun KB0 hKB0 => ?_) ?_
    · have agB0 := agree.refl [1, 3, 6, 8] F1
      have eB0_b3 : M1 b3 = M1 b3 := rfl
      refine awp_block ?_
      refine awp_seq_k fun K hK => ?_
      refine awp_region rfl ?_
      simp only [f1, f3, f6, f7, f8, f20, hb3, hb8, nb8_b3, nb3_b8, List.length_map, e1, e2, e3, e4, z1, hg, o1, o2, RR, seval]
      refine hK _ _ ?_; clear hK K
      refine awp_if _ rfl (fun hc9 => ?_) (fun hc9 => ?_)
      · refine awp_region rfl ?_
        simp only [f1, f3, f6, f7, f8, f20, hb3, hb8, nb8_b3, nb3_b8, List.length_map, e1, e2, e3, e4, z1, hg, o1, o2, RR, seval]
        refine awpC_pure' (q0) ?_
        simp only [f1, f3, f6, f7, f8, f20, hb3, hb8, nb8_b3, nb3_b8, List.length_map, e1, e2, e3, e4, z1, hg, o1, o2, RR, seval]
        refine hKB0 _ _ ⟨(by repeat (first | exact agB0 | refine agree.upd rfl ?_)), (by first | exact eB0_b3 | (simp only [nb8_b3, nb3_b8, upd_app, seval]; first | done | exact eB0_b3)), ⟨_, upd_same _ _ _, ?_⟩⟩
        have hjj : j = 0 ∨ j = 1 ∨ j = 2 ∨ j = 3 ∨ j = 4 ∨ j = 5 := by omega
        rcases hjj with rfl | rfl | rfl | rfl | rfl | rfl <;> first | exact absurd hc9 (by decide) | exact absurd hc11 (by decide) | exact absurd hc13 (by decide) | exact absurd hc15 (by decide) | exact absurd hc17 (by decide) | (simp only [unkX, Sm.row, rowsS, exs, List.map_cons, List.map_nil, Ex.row, rowsE]; repeat' (first | exact SubR.nil | exact SubRs.nil | exact Sub.refl _ | exact Sub.nsl _ | refine SubR.cons ?_ ?_ | refine SubRs.cons ?_ ?_ | refine Sub.isl ?_))
      · refine awp_seq_k fun K hK => ?_
        refine awp_region rfl ?_
        simp only [f1, f3, f6, f7, f8, f20, hb3, hb8, nb8_b3, nb3_b8, List.length_map, e1, e2, e3, e4, z1, hg, o1, o2, RR, seval]
        refine hK _ _ ?_; clear hK K
        refine awp_if _ rfl (fun hc11 => ?_) (fun hc11 => ?_)
        · refine awp_region rfl ?_
          simp only [f1, f3, f6, f7, f8, f20, hb3, hb8, nb8_b3, nb3_b8, List.length_map, e1, e2, e3, e4, z1, hg, o1, o2, RR, seval]
          refine awpC_pure' (k0) ?_
          simp only [f1, f3, f6, f7, f8, f20, hb3, hb8, nb8_b3, nb3_b8, List.length_map, e1, e2, e3, e4, z1, hg, o1, o2, RR, seval]
          refine awpB_sealed ?_
          simp only [f1, f3, f6, f7, f8, f20, hb3, hb8, nb8_b3, nb3_b8, List.length_map, e1, e2, e3, e4, z1, hg, o1, o2, RR, seval]
          refine awpC_pure' (q1) ?_
          simp only [f1, f3, f6, f7, f8, f20, hb3, hb8, nb8_b3, nb3_b8, List.length_map, e1, e2, e3, e4, z1, hg, o1, o2, RR, seval]
          refine hKB0 _ _ ⟨(by repeat (first | exact agB0 | refine agree.upd rfl ?_)), (by first | exact eB0_b3 | (simp only [nb8_b3, nb3_b8, upd_app, seval]; first | done | exact eB0_b3)), ⟨_, upd_same _ _ _, ?_⟩⟩
          have hjj : j = 0 ∨ j = 1 ∨ j = 2 ∨ j = 3 ∨ j = 4 ∨ j = 5 := by omega
          rcases hjj with rfl | rfl | rfl | rfl | rfl | rfl <;> first | exact absurd hc9 (by decide) | exact absurd hc11 (by decide) | exact absurd hc13 (by decide) | exact absurd hc15 (by decide) | exact absurd hc17 (by decide) | (simp only [unkX, Sm.row, rowsS, exs, List.map_cons, List.map_nil, Ex.row, rowsE]; repeat' (first | exact SubR.nil | exact SubRs.nil | exact Sub.refl _ | exact Sub.nsl _ | refine SubR.cons ?_ ?_ | refine SubRs.cons ?_ ?_ | refine Sub.isl ?_))
        · refine awp_seq_k fun K hK => ?_
          refine awp_region rfl ?_
          simp only [f1, f3, f6, f7, f8, f20, hb3, hb8, nb8_b3, nb3_b8, List.length_map, e1, e2, e3, e4, z1, hg, o1, o2, RR, seval]
          refine hK _ _ ?_; clear hK K
          refine awp_if _ rfl (fun hc13 => ?_) (fun hc13 => ?_)
          · refine awp_region rfl ?_
            simp only [f1, f3, f6, f7, f8, f20, hb3, hb8, nb8_b3, nb3_b8, List.length_map, e1, e2, e3, e4, z1, hg, o1, o2, RR, seval]
            refine awpC_pure' (q2) ?_
            simp only [f1, f3, f6, f7, f8, f20, hb3, hb8, nb8_b3, nb3_b8, List.length_map, e1, e2, e3, e4, z1, hg, o1, o2, RR, seval]
            refine hKB0 _ _ ⟨(by repeat (first | exact agB0 | refine agree.upd rfl ?_)), (by first | exact eB0_b3 | (simp only [nb8_b3, nb3_b8, upd_app, seval]; first | done | exact eB0_b3)), ⟨_, upd_same _ _ _, ?_⟩⟩
            have hjj : j = 0 ∨ j = 1 ∨ j = 2 ∨ j = 3 ∨ j = 4 ∨ j = 5 := by omega
            rcases hjj with rfl | rfl | rfl | rfl | rfl | rfl <;> first | exact absurd hc9 (by decide) | exact absurd hc11 (by decide) | exact absurd hc13 (by decide) | exact absurd hc15 (by decide) | exact absurd hc17 (by decide) | (simp only [unkX, Sm.row, rowsS, exs, List.map_cons, List.map_nil, Ex.row, rowsE]; repeat' (first | exact SubR.nil | exact SubRs.nil | exact Sub.refl _ | exact Sub.nsl _ | refine SubR.cons ?_ ?_ | refine SubRs.cons ?_ ?_ | refine Sub.isl ?_))
          · refine awp_seq_k fun K hK => ?_
            refine awp_region rfl ?_
            simp only [f1, f3, f6, f7, f8, f20, hb3, hb8, nb8_b3, nb3_b8, List.length_map, e1, e2, e3, e4, z1, hg, o1, o2, RR, seval]
            refine hK _ _ ?_; clear hK K
            refine awp_if _ rfl (fun hc15 => ?_) (fun hc15 => ?_)
            · refine awp_region rfl ?_
              simp only [f1, f3, f6, f7, f8, f20, hb3, hb8, nb8_b3, nb3_b8, List.length_map, e1, e2, e3, e4, z1, hg, o1, o2, RR, seval]
              refine awpC_pure' (k1) ?_
              simp only [f1, f3, f6, f7, f8, f20, hb3, hb8, nb8_b3, nb3_b8, List.length_map, e1, e2, e3, e4, z1, hg, o1, o2, RR, seval]
              refine awpB_sealed ?_
              simp only [f1, f3, f6, f7, f8, f20, hb3, hb8, nb8_b3, nb3_b8, List.length_map, e1, e2, e3, e4, z1, hg, o1, o2, RR, seval]
              refine hKB0 _ _ ⟨(by repeat (first | exact agB0 | refine agree.upd rfl ?_)), (by first | exact eB0_b3 | (simp only [nb8_b3, nb3_b8, upd_app, seval]; first | done | exact eB0_b3)), ⟨_, upd_same _ _ _, ?_⟩⟩
              have hjj : j = 0 ∨ j = 1 ∨ j = 2 ∨ j = 3 ∨ j = 4 ∨ j = 5 := by omega
              rcases hjj with rfl | rfl | rfl | rfl | rfl | rfl <;> first | exact absurd hc9 (by decide) | exact absurd hc11 (by decide) | exact absurd hc13 (by decide) | exact absurd hc15 (by decide) | exact absurd hc17 (by decide) | (simp only [unkX, Sm.row, rowsS, exs, List.map_cons, List.map_nil, Ex.row, rowsE]; repeat' (first | exact SubR.nil | exact SubRs.nil | exact Sub.refl _ | exact Sub.nsl _ | refine SubR.cons ?_ ?_ | refine SubRs.cons ?_ ?_ | refine Sub.isl ?_))
            · refine awp_seq_k fun K hK => ?_
              refine awp_region rfl ?_
              simp only [f1, f3, f6, f7, f8, f20, hb3, hb8, nb8_b3, nb3_b8, List.length_map, e1, e2, e3, e4, z1, hg, o1, o2, RR, seval]
              refine hK _ _ ?_; clear hK K
              refine awp_if _ rfl (fun hc17 => ?_) (fun hc17 => ?_)
              · refine awp_region rfl ?_
                simp only [f1, f3, f6, f7, f8, f20, hb3, hb8, nb8_b3, nb3_b8, List.length_map, e1, e2, e3, e4, z1, hg, o1, o2, RR, seval]
                refine awpC_pure' (k0) ?_
                simp only [f1, f3, f6, f7, f8, f20, hb3, hb8, nb8_b3, nb3_b8, List.length_map, e1, e2, e3, e4, z1, hg, o1, o2, RR, seval]
                refine awpC_pure' (k1) ?_
                simp only [f1, f3, f6, f7, f8, f20, hb3, hb8, nb8_b3, nb3_b8, List.length_map, e1, e2, e3, e4, z1, hg, o1, o2, RR, seval]
                refine awpB_sealed ?_
                simp only [f1, f3, f6, f7, f8, f20, hb3, hb8, nb8_b3, nb3_b8, List.length_map, e1, e2, e3, e4, z1, hg, o1, o2, RR, seval]
                refine hKB0 _ _ ⟨(by repeat (first | exact agB0 | refine agree.upd rfl ?_)), (by first | exact eB0_b3 | (simp only [nb8_b3, nb3_b8, upd_app, seval]; first | done | exact eB0_b3)), ⟨_, upd_same _ _ _, ?_⟩⟩
                have hjj : j = 0 ∨ j = 1 ∨ j = 2 ∨ j = 3 ∨ j = 4 ∨ j = 5 := by omega
                rcases hjj with rfl | rfl | rfl | rfl | rfl | rfl <;> first | exact absurd hc9 (by decide) | exact absurd hc11 (by decide) | exact absurd hc13 (by decide) | exact absurd hc15 (by decide) | exact absurd hc17 (by decide) | (simp only [unkX, Sm.row, rowsS, exs, List.map_cons, List.map_nil, Ex.row, rowsE]; repeat' (first | exact SubR.nil | exact SubRs.nil | exact Sub.refl _ | exact Sub.nsl _ | refine SubR.cons ?_ ?_ | refine SubRs.cons ?_ ?_ | refine Sub.isl ?_))
              · refine awp_region rfl ?_
                simp only [f1, f3, f6, f7, f8, f20, hb3, hb8, nb8_b3, nb3_b8, List.length_map, e1, e2, e3, e4, z1, hg, o1, o2, RR, seval]
                refine hKB0 _ _ ⟨(by repeat (first | exact agB0 | refine agree.upd rfl ?_)), (by first | exact eB0_b3 | (simp only [nb8_b3, nb3_b8, upd_app, seval]; first | done | exact eB0_b3)), ⟨_, upd_same _ _ _, ?_⟩⟩
                have hjj : j = 0 ∨ j = 1 ∨ j = 2 ∨ j = 3 ∨ j = 4 ∨ j = 5 := by omega
                rcases hjj with rfl | rfl | rfl | rfl | rfl | rfl <;> first | exact absurd hc9 (by decide) | exact absurd hc11 (by decide) | exact absurd hc13 (by decide) | exact absurd hc15 (by decide) | exact absurd hc17 (by decide) | (simp only [unkX, Sm.row, rowsS, exs, List.map_cons, List.map_nil, Ex.row, rowsE]; repeat' (first | exact SubR.nil | exact SubRs.nil | exact Sub.refl _ | exact Sub.nsl _ | refine SubR.cons ?_ ?_ | refine SubRs.cons ?_ ?_ | refine Sub.isl ?_))
    rintro F2 M2 ⟨agx, gb3, ⟨r8, hb8, hsub⟩⟩
    have f1 := (agx 1 rfl).trans f1
    have f3 := (agx 3 rfl).trans f3
    have f6 := (agx 6 rfl).trans f6
    have f8 := (agx 8 rfl).trans f8
    have hb3 := gb3.trans hb3
    clear agx
    clear gb3
    simp only [RR, seval]
    rw [Sm.row_eq] at hsub
    have o3 : ([[.int .i64 (unkX j s).kind, .str (unkX j s).name, .isl 5 ((unkX j s).es.map Ex.row), .isl 5 ((unkX j s).thn.map Sm.row), .isl 5 ((unkX j s).els.map Sm.row)]] : List (List AV)).all (fun r => r.all one) = true := rfl
    generalize unkX j s = x at *
    refine awp_weak1 hb8 hsub ?_
    refine awp_name fun F3 M3 hfr hH => ?_
    have g1 := hfr 1
    have g3 := hfr 3
    have g6 := hfr 6
    have g8 := hfr 8
    have gb3 := hH b3
    have gb8 := hH b8
    try simp only [f1, f3, f6, f8, hb3, nb8_b3, nb3_b8, List.length_map, e1, e2, e3, e4, z1, hg, o1, o2, RR, seval] at g1 g3 g6 g8 gb3 gb8
    have f1 := g1; clear g1
    have f3 := g3; clear g3
    have f6 := g6; clear g6
    have f8 := g8; clear g8
    have hb3 := gb3; clear gb3
    have hb8 := gb8; clear gb8
    clear hfr hH
    refine awp_seq_k fun K hK => ?_
    refine awp_region rfl ?_
    simp only [f1, f3, f6, f8, hb3, hb8, nb8_b3, nb3_b8, List.length_map, e1, e2, e3, e4, z1, hg, o1, o2, RR, seval]
    refine awpN_intro fun b9 hn9 => ?_
    have nb9_b3 : b9 ≠ b3 := fun e => by rw [e] at hn9; simp only [f1, f3, f6, f8, hb3, hb8, nb8_b3, nb3_b8, List.length_map, e1, e2, e3, e4, z1, hg, o1, o2, RR, seval, reduceCtorEq] at hn9
    have nb3_b9 : b3 ≠ b9 := fun e => nb9_b3 e.symm
    have nb9_b8 : b9 ≠ b8 := fun e => by rw [e] at hn9; simp only [f1, f3, f6, f8, hb3, hb8, nb8_b3, nb3_b8, List.length_map, e1, e2, e3, e4, z1, hg, o1, o2, RR, seval, reduceCtorEq] at hn9
    have nb8_b9 : b8 ≠ b9 := fun e => nb9_b8 e.symm
    simp only [f1, f3, f6, f8, hb3, hb8, nb8_b3, nb3_b8, nb9_b3, nb3_b9, nb9_b8, nb8_b9, List.length_map, e1, e2, e3, e4, z1, hg, o1, o2, RR, seval]
    refine hK _ _ ?_; clear hK K
    refine awp_seq_k fun K hK => ?_
    refine awp_region rfl ?_
    simp only [f1, f3, f6, f8, hb3, hb8, nb8_b3, nb3_b8, nb9_b3, nb3_b9, nb9_b8, nb8_b9, List.length_map, e1, e2, e3, e4, z1, hg, o1, o2, RR, seval]
    refine awpB_own fun b54 hn54 => ?_
    have nb54_b3 : b54 ≠ b3 := fun e => by rw [e] at hn54; simp only [f1, f3, f6, f8, hb3, hb8, nb8_b3, nb3_b8, nb9_b3, nb3_b9, nb9_b8, nb8_b9, List.length_map, e1, e2, e3, e4, z1, hg, o1, o2, RR, seval, reduceCtorEq] at hn54
    have nb3_b54 : b3 ≠ b54 := fun e => nb54_b3 e.symm
    have nb54_b8 : b54 ≠ b8 := fun e => by rw [e] at hn54; simp only [f1, f3, f6, f8, hb3, hb8, nb8_b3, nb3_b8, nb9_b3, nb3_b9, nb9_b8, nb8_b9, List.length_map, e1, e2, e3, e4, z1, hg, o1, o2, RR, seval, reduceCtorEq] at hn54
    have nb8_b54 : b8 ≠ b54 := fun e => nb54_b8 e.symm
    have nb54_b9 : b54 ≠ b9 := fun e => by rw [e] at hn54; simp only [f1, f3, f6, f8, hb3, hb8, nb8_b3, nb3_b8, nb9_b3, nb3_b9, nb9_b8, nb8_b9, List.length_map, e1, e2, e3, e4, z1, hg, o1, o2, RR, seval, reduceCtorEq] at hn54
    have nb9_b54 : b9 ≠ b54 := fun e => nb54_b9 e.symm
    simp only [f1, f3, f6, f8, hb3, hb8, nb8_b3, nb3_b8, nb9_b3, nb3_b9, nb9_b8, nb8_b9, nb54_b3, nb3_b54, nb54_b8, nb8_b54, nb54_b9, nb9_b54, List.length_map, e1, e2, e3, e4, z1, hg, o1, o2, RR, seval]
    refine awpA_osl (b := b54) (upd_same _ _ _) (by simp only [List.length_map, List.length_append, List.length_cons, List.length_nil, Nat.zero_add]) (by simp only [List.length_map, List.length_append, List.length_cons, List.length_nil]; omega) (by repeat (first | trivial | assumption | refine ⟨?_, ?_⟩)) fun b57 hn57 => ?_
    have nb57_b3 : b57 ≠ b3 := by rcases hn57 with e | e; rw [e]; exact nb54_b3; intro e2; rw [e2] at e; simp only [f1, f3, f6, f8, hb3, hb8, nb8_b3, nb3_b8, nb9_b3, nb3_b9, nb9_b8, nb8_b9, nb54_b3, nb3_b54, nb54_b8, nb8_b54, nb54_b9, nb9_b54, List.length_map, e1, e2, e3, e4, z1, hg, o1, o2, RR, seval, reduceCtorEq] at e
    have nb3_b57 : b3 ≠ b57 := fun e => nb57_b3 e.symm
    have nb57_b8 : b57 ≠ b8 := by rcases hn57 with e | e; rw [e]; exact nb54_b8; intro e2; rw [e2] at e; simp only [f1, f3, f6, f8, hb3, hb8, nb8_b3, nb3_b8, nb9_b3, nb3_b9, nb9_b8, nb8_b9, nb54_b3, nb3_b54, nb54_b8, nb8_b54, nb54_b9, nb9_b54, List.length_map, e1, e2, e3, e4, z1, hg, o1, o2, RR, seval, reduceCtorEq] at e
    have nb8_b57 : b8 ≠ b57 := fun e => nb57_b8 e.symm
    have nb57_b9 : b57 ≠ b9 := by rcases hn57 with e | e; rw [e]; exact nb54_b9; intro e2; rw [e2] at e; simp only [f1, f3, f6, f8, hb3, hb8, nb8_b3, nb3_b8, nb9_b3, nb3_b9, nb9_b8, nb8_b9, nb54_b3, nb3_b54, nb54_b8, nb8_b54, nb54_b9, nb9_b54, List.length_map, e1, e2, e3, e4, z1, hg, o1, o2, RR, seval, reduceCtorEq] at e
    have nb9_b57 : b9 ≠ b57 := fun e => nb57_b9 e.symm
    simp only [List.length_append, f1, f3, f6, f8, hb3, hb8, nb8_b3, nb3_b8, nb9_b3, nb3_b9, nb9_b8, nb8_b9, nb54_b3, nb3_b54, nb54_b8, nb8_b54, nb54_b9, nb9_b54, nb57_b3, nb3_b57, nb57_b8, nb8_b57, nb57_b9, nb9_b57, List.length_map, e1, e2, e3, e4, z1, hg, o1, o2, RR, seval]
    refine hK _ _ ?_; clear hK K
    refine awp_seq_k fun K hK => ?_
    refine awp_region rfl ?_
    simp only [f1, f3, f6, f8, hb3, hb8, nb8_b3, nb3_b8, nb9_b3, nb3_b9, nb9_b8, nb8_b9, nb54_b3, nb3_b54, nb54_b8, nb8_b54, nb54_b9, nb9_b54, nb57_b3, nb3_b57, nb57_b8, nb8_b57, nb57_b9, nb9_b57, List.length_map, e1, e2, e3, e4, z1, hg, o1, o2, RR, seval]
    refine hK _ _ ?_; clear hK K
    refine awp_seq_k fun K hK => ?_
    refine awp_region rfl ?_
    simp only [f1, f3, f6, f8, hb3, hb8, nb8_b3, nb3_b8, nb9_b3, nb3_b9, nb9_b8, nb8_b9, nb54_b3, nb3_b54, nb54_b8, nb8_b54, nb54_b9, nb9_b54, nb57_b3, nb3_b57, nb57_b8, nb8_b57, nb57_b9, nb9_b57, List.length_map, e1, e2, e3, e4, z1, hg, o1, o2, RR, seval]
    refine awpN_intro fun b11 hn11 => ?_
    have nb11_b3 : b11 ≠ b3 := fun e => by rw [e] at hn11; simp only [f1, f3, f6, f8, hb3, hb8, nb8_b3, nb3_b8, nb9_b3, nb3_b9, nb9_b8, nb8_b9, nb54_b3, nb3_b54, nb54_b8, nb8_b54, nb54_b9, nb9_b54, nb57_b3, nb3_b57, nb57_b8, nb8_b57, nb57_b9, nb9_b57, List.length_map, e1, e2, e3, e4, z1, hg, o1, o2, RR, seval, reduceCtorEq] at hn11
    have nb3_b11 : b3 ≠ b11 := fun e => nb11_b3 e.symm
    have nb11_b8 : b11 ≠ b8 := fun e => by rw [e] at hn11; simp only [f1, f3, f6, f8, hb3, hb8, nb8_b3, nb3_b8, nb9_b3, nb3_b9, nb9_b8, nb8_b9, nb54_b3, nb3_b54, nb54_b8, nb8_b54, nb54_b9, nb9_b54, nb57_b3, nb3_b57, nb57_b8, nb8_b57, nb57_b9, nb9_b57, List.length_map, e1, e2, e3, e4, z1, hg, o1, o2, RR, seval, reduceCtorEq] at hn11
    have nb8_b11 : b8 ≠ b11 := fun e => nb11_b8 e.symm
    have nb11_b9 : b11 ≠ b9 := fun e => by rw [e] at hn11; simp only [f1, f3, f6, f8, hb3, hb8, nb8_b3, nb3_b8, nb9_b3, nb3_b9, nb9_b8, nb8_b9, nb54_b3, nb3_b54, nb54_b8, nb8_b54, nb54_b9, nb9_b54, nb57_b3, nb3_b57, nb57_b8, nb8_b57, nb57_b9, nb9_b57, List.length_map, e1, e2, e3, e4, z1, hg, o1, o2, RR, seval, reduceCtorEq] at hn11
    have nb9_b11 : b9 ≠ b11 := fun e => nb11_b9 e.symm
    have nb11_b57 : b11 ≠ b57 := fun e => by rw [e] at hn11; simp only [f1, f3, f6, f8, hb3, hb8, nb8_b3, nb3_b8, nb9_b3, nb3_b9, nb9_b8, nb8_b9, nb54_b3, nb3_b54, nb54_b8, nb8_b54, nb54_b9, nb9_b54, nb57_b3, nb3_b57, nb57_b8, nb8_b57, nb57_b9, nb9_b57, List.length_map, e1, e2, e3, e4, z1, hg, o1, o2, RR, seval, reduceCtorEq] at hn11
    have nb57_b11 : b57 ≠ b11 := fun e => nb11_b57 e.symm
    simp only [f1, f3, f6, f8, hb3, hb8, nb8_b3, nb3_b8, nb9_b3, nb3_b9, nb9_b8, nb8_b9, nb54_b3, nb3_b54, nb54_b8, nb8_b54, nb54_b9, nb9_b54, nb57_b3, nb3_b57, nb57_b8, nb8_b57, nb57_b9, nb9_b57, nb11_b3, nb3_b11, nb11_b8, nb8_b11, nb11_b9, nb9_b11, nb11_b57, nb57_b11, List.length_map, e1, e2, e3, e4, z1, hg, o1, o2, RR, seval]
    refine hK _ _ ?_; clear hK K
    refine awp_seq_k fun K hK => ?_
    refine awp_region_draw2 (fun x => x ≠ b3 ∧ x ≠ b8 ∧ x ≠ b9 ∧ x ≠ b57 ∧ x ≠ b11) [(1, 0), (2, 0), (4, 0), (5, 2), (0, 1), (3, 1), (6, 1), (7, 1)] [(8, 1)] draws (by kernel_rfl) rfl rfl ?_
    simp only [emitF, markOf, ne_eq, not_true_eq_false, and_false, false_and, not_false_eq_true, f1, f3, f6, f8, hb3, hb8, nb8_b3, nb3_b8, nb9_b3, nb3_b9, nb9_b8, nb8_b9, nb54_b3, nb3_b54, nb54_b8, nb8_b54, nb54_b9, nb9_b54, nb57_b3, nb3_b57, nb57_b8, nb8_b57, nb57_b9, nb9_b57, nb11_b3, nb3_b11, nb11_b8, nb8_b11, nb11_b9, nb9_b11, nb11_b57, nb57_b11, List.length_map, e1, e2, e3, e4, z1, hg, o1, o2, RR, seval]
    refine awpB_own fun b70 hn70 => ?_
    have nb70_b3 : b70 ≠ b3 := fun e => by rw [e] at hn70; simp only [f1, f3, f6, f8, hb3, hb8, nb8_b3, nb3_b8, nb9_b3, nb3_b9, nb9_b8, nb8_b9, nb54_b3, nb3_b54, nb54_b8, nb8_b54, nb54_b9, nb9_b54, nb57_b3, nb3_b57, nb57_b8, nb8_b57, nb57_b9, nb9_b57, nb11_b3, nb3_b11, nb11_b8, nb8_b11, nb11_b9, nb9_b11, nb11_b57, nb57_b11, List.length_map, e1, e2, e3, e4, z1, hg, o1, o2, RR, seval, reduceCtorEq] at hn70
    have nb3_b70 : b3 ≠ b70 := fun e => nb70_b3 e.symm
    have nb70_b8 : b70 ≠ b8 := fun e => by rw [e] at hn70; simp only [f1, f3, f6, f8, hb3, hb8, nb8_b3, nb3_b8, nb9_b3, nb3_b9, nb9_b8, nb8_b9, nb54_b3, nb3_b54, nb54_b8, nb8_b54, nb54_b9, nb9_b54, nb57_b3, nb3_b57, nb57_b8, nb8_b57, nb57_b9, nb9_b57, nb11_b3, nb3_b11, nb11_b8, nb8_b11, nb11_b9, nb9_b11, nb11_b57, nb57_b11, List.length_map, e1, e2, e3, e4, z1, hg, o1, o2, RR, seval, reduceCtorEq] at hn70
    have nb8_b70 : b8 ≠ b70 := fun e => nb70_b8 e.symm
    have nb70_b9 : b70 ≠ b9 := fun e => by rw [e] at hn70; simp only [f1, f3, f6, f8, hb3, hb8, nb8_b3, nb3_b8, nb9_b3, nb3_b9, nb9_b8, nb8_b9, nb54_b3, nb3_b54, nb54_b8, nb8_b54, nb54_b9, nb9_b54, nb57_b3, nb3_b57, nb57_b8, nb8_b57, nb57_b9, nb9_b57, nb11_b3, nb3_b11, nb11_b8, nb8_b11, nb11_b9, nb9_b11, nb11_b57, nb57_b11, List.length_map, e1, e2, e3, e4, z1, hg, o1, o2, RR, seval, reduceCtorEq] at hn70
    have nb9_b70 : b9 ≠ b70 := fun e => nb70_b9 e.symm
    have nb70_b57 : b70 ≠ b57 := fun e => by rw [e] at hn70; simp only [f1, f3, f6, f8, hb3, hb8, nb8_b3, nb3_b8, nb9_b3, nb3_b9, nb9_b8, nb8_b9, nb54_b3, nb3_b54, nb54_b8, nb8_b54, nb54_b9, nb9_b54, nb57_b3, nb3_b57, nb57_b8, nb8_b57, nb57_b9, nb9_b57, nb11_b3, nb3_b11, nb11_b8, nb8_b11, nb11_b9, nb9_b11, nb11_b57, nb57_b11, List.length_map, e1, e2, e3, e4, z1, hg, o1, o2, RR, seval, reduceCtorEq] at hn70
    have nb57_b70 : b57 ≠ b70 := fun e => nb70_b57 e.symm
    have nb70_b11 : b70 ≠ b11 := fun e => by rw [e] at hn70; simp only [f1, f3, f6, f8, hb3, hb8, nb8_b3, nb3_b8, nb9_b3, nb3_b9, nb9_b8, nb8_b9, nb54_b3, nb3_b54, nb54_b8, nb8_b54, nb54_b9, nb9_b54, nb57_b3, nb3_b57, nb57_b8, nb8_b57, nb57_b9, nb9_b57, nb11_b3, nb3_b11, nb11_b8, nb8_b11, nb11_b9, nb9_b11, nb11_b57, nb57_b11, List.length_map, e1, e2, e3, e4, z1, hg, o1, o2, RR, seval, reduceCtorEq] at hn70
    have nb11_b70 : b11 ≠ b70 := fun e => nb70_b11 e.symm
    simp only [emitF, markOf, ne_eq, not_true_eq_false, and_false, false_and, not_false_eq_true, f1, f3, f6, f8, hb3, hb8, nb8_b3, nb3_b8, nb9_b3, nb3_b9, nb9_b8, nb8_b9, nb54_b3, nb3_b54, nb54_b8, nb8_b54, nb54_b9, nb9_b54, nb57_b3, nb3_b57, nb57_b8, nb8_b57, nb57_b9, nb9_b57, nb11_b3, nb3_b11, nb11_b8, nb8_b11, nb11_b9, nb9_b11, nb11_b57, nb57_b11, nb70_b3, nb3_b70, nb70_b8, nb8_b70, nb70_b9, nb9_b70, nb70_b57, nb57_b70, nb70_b11, nb11_b70, List.length_map, e1, e2, e3, e4, z1, hg, o1, o2, RR, seval]
    refine awpA_osl (b := b70) (upd_same _ _ _) (by simp only [List.length_map, List.length_append, List.length_cons, List.length_nil, Nat.zero_add]) (by simp only [List.length_map, List.length_append, List.length_cons, List.length_nil]; omega) (by repeat (first | trivial | assumption | refine ⟨?_, ?_⟩)) fun b73 hn73 => ?_
    have nb73_b3 : b73 ≠ b3 := by rcases hn73 with e | e; rw [e]; exact nb70_b3; intro e2; rw [e2] at e; simp only [f1, f3, f6, f8, hb3, hb8, nb8_b3, nb3_b8, nb9_b3, nb3_b9, nb9_b8, nb8_b9, nb54_b3, nb3_b54, nb54_b8, nb8_b54, nb54_b9, nb9_b54, nb57_b3, nb3_b57, nb57_b8, nb8_b57, nb57_b9, nb9_b57, nb11_b3, nb3_b11, nb11_b8, nb8_b11, nb11_b9, nb9_b11, nb11_b57, nb57_b11, nb70_b3, nb3_b70, nb70_b8, nb8_b70, nb70_b9, nb9_b70, nb70_b57, nb57_b70, nb70_b11, nb11_b70, List.length_map, e1, e2, e3, e4, z1, hg, o1, o2, RR, seval, reduceCtorEq] at e
    have nb3_b73 : b3 ≠ b73 := fun e => nb73_b3 e.symm
    have nb73_b8 : b73 ≠ b8 := by rcases hn73 with e | e; rw [e]; exact nb70_b8; intro e2; rw [e2] at e; simp only [f1, f3, f6, f8, hb3, hb8, nb8_b3, nb3_b8, nb9_b3, nb3_b9, nb9_b8, nb8_b9, nb54_b3, nb3_b54, nb54_b8, nb8_b54, nb54_b9, nb9_b54, nb57_b3, nb3_b57, nb57_b8, nb8_b57, nb57_b9, nb9_b57, nb11_b3, nb3_b11, nb11_b8, nb8_b11, nb11_b9, nb9_b11, nb11_b57, nb57_b11, nb70_b3, nb3_b70, nb70_b8, nb8_b70, nb70_b9, nb9_b70, nb70_b57, nb57_b70, nb70_b11, nb11_b70, List.length_map, e1, e2, e3, e4, z1, hg, o1, o2, RR, seval, reduceCtorEq] at e
    have nb8_b73 : b8 ≠ b73 := fun e => nb73_b8 e.symm
    have nb73_b9 : b73 ≠ b9 := by rcases hn73 with e | e; rw [e]; exact nb70_b9; intro e2; rw [e2] at e; simp only [f1, f3, f6, f8, hb3, hb8, nb8_b3, nb3_b8, nb9_b3, nb3_b9, nb9_b8, nb8_b9, nb54_b3, nb3_b54, nb54_b8, nb8_b54, nb54_b9, nb9_b54, nb57_b3, nb3_b57, nb57_b8, nb8_b57, nb57_b9, nb9_b57, nb11_b3, nb3_b11, nb11_b8, nb8_b11, nb11_b9, nb9_b11, nb11_b57, nb57_b11, nb70_b3, nb3_b70, nb70_b8, nb8_b70, nb70_b9, nb9_b70, nb70_b57, nb57_b70, nb70_b11, nb11_b70, List.length_map, e1, e2, e3, e4, z1, hg, o1, o2, RR, seval, reduceCtorEq] at e
    have nb9_b73 : b9 ≠ b73 := fun e => nb73_b9 e.symm
    have nb73_b57 : b73 ≠ b57 := by rcases hn73 with e | e; rw [e]; exact nb70_b57; intro e2; rw [e2] at e; simp only [f1, f3, f6, f8, hb3, hb8, nb8_b3, nb3_b8, nb9_b3, nb3_b9, nb9_b8, nb8_b9, nb54_b3, nb3_b54, nb54_b8, nb8_b54, nb54_b9, nb9_b54, nb57_b3, nb3_b57, nb57_b8, nb8_b57, nb57_b9, nb9_b57, nb11_b3, nb3_b11, nb11_b8, nb8_b11, nb11_b9, nb9_b11, nb11_b57, nb57_b11, nb70_b3, nb3_b70, nb70_b8, nb8_b70, nb70_b9, nb9_b70, nb70_b57, nb57_b70, nb70_b11, nb11_b70, List.length_map, e1, e2, e3, e4, z1, hg, o1, o2, RR, seval, reduceCtorEq] at e
    have nb57_b73 : b57 ≠ b73 := fun e => nb73_b57 e.symm
    have nb73_b11 : b73 ≠ b11 := by rcases hn73 with e | e; rw [e]; exact nb70_b11; intro e2; rw [e2] at e; simp only [f1, f3, f6, f8, hb3, hb8, nb8_b3, nb3_b8, nb9_b3, nb3_b9, nb9_b8, nb8_b9, nb54_b3, nb3_b54, nb54_b8, nb8_b54, nb54_b9, nb9_b54, nb57_b3, nb3_b57, nb57_b8, nb8_b57, nb57_b9, nb9_b57, nb11_b3, nb3_b11, nb11_b8, nb8_b11, nb11_b9, nb9_b11, nb11_b57, nb57_b11, nb70_b3, nb3_b70, nb70_b8, nb8_b70, nb70_b9, nb9_b70, nb70_b57, nb57_b70, nb70_b11, nb11_b70, List.length_map, e1, e2, e3, e4, z1, hg, o1, o2, RR, seval, reduceCtorEq] at e
    have nb11_b73 : b11 ≠ b73 := fun e => nb73_b11 e.symm
    simp only [emitF, markOf, ne_eq, not_true_eq_false, and_false, false_and, not_false_eq_true, List.length_append, f1, f3, f6, f8, hb3, hb8, nb8_b3, nb3_b8, nb9_b3, nb3_b9, nb9_b8, nb8_b9, nb54_b3, nb3_b54, nb54_b8, nb8_b54, nb54_b9, nb9_b54, nb57_b3, nb3_b57, nb57_b8, nb8_b57, nb57_b9, nb9_b57, nb11_b3, nb3_b11, nb11_b8, nb8_b11, nb11_b9, nb9_b11, nb11_b57, nb57_b11, nb70_b3, nb3_b70, nb70_b8, nb8_b70, nb70_b9, nb9_b70, nb70_b57, nb57_b70, nb70_b11, nb11_b70, nb73_b3, nb3_b73, nb73_b8, nb8_b73, nb73_b9, nb9_b73, nb73_b57, nb57_b73, nb73_b11, nb11_b73, List.length_map, e1, e2, e3, e4, z1, hg, o1, o2, RR, seval]
    refine awpA_osl (b := b73) (upd_same _ _ _) (by simp only [List.length_map, List.length_append, List.length_cons, List.length_nil, Nat.zero_add]) (by simp only [List.length_map, List.length_append, List.length_cons, List.length_nil]; omega) (by repeat (first | trivial | assumption | refine ⟨?_, ?_⟩)) fun b76 hn76 => ?_
    have nb76_b3 : b76 ≠ b3 := by rcases hn76 with e | e; rw [e]; exact nb73_b3; intro e2; rw [e2] at e; simp only [f1, f3, f6, f8, hb3, hb8, nb8_b3, nb3_b8, nb9_b3, nb3_b9, nb9_b8, nb8_b9, nb54_b3, nb3_b54, nb54_b8, nb8_b54, nb54_b9, nb9_b54, nb57_b3, nb3_b57, nb57_b8, nb8_b57, nb57_b9, nb9_b57, nb11_b3, nb3_b11, nb11_b8, nb8_b11, nb11_b9, nb9_b11, nb11_b57, nb57_b11, nb70_b3, nb3_b70, nb70_b8, nb8_b70, nb70_b9, nb9_b70, nb70_b57, nb57_b70, nb70_b11, nb11_b70, nb73_b3, nb3_b73, nb73_b8, nb8_b73, nb73_b9, nb9_b73, nb73_b57, nb57_b73, nb73_b11, nb11_b73, List.length_map, e1, e2, e3, e4, z1, hg, o1, o2, RR, seval, reduceCtorEq] at e
    have nb3_b76 : b3 ≠ b76 := fun e => nb76_b3 e.symm
    have nb76_b8 : b76 ≠ b8 := by rcases hn76 with e | e; rw [e]; exact nb73_b8; intro e2; rw [e2] at e; simp only [f1, f3, f6, f8, hb3, hb8, nb8_b3, nb3_b8, nb9_b3, nb3_b9, nb9_b8, nb8_b9, nb54_b3, nb3_b54, nb54_b8, nb8_b54, nb54_b9, nb9_b54, nb57_b3, nb3_b57, nb57_b8, nb8_b57, nb57_b9, nb9_b57, nb11_b3, nb3_b11, nb11_b8, nb8_b11, nb11_b9, nb9_b11, nb11_b57, nb57_b11, nb70_b3, nb3_b70, nb70_b8, nb8_b70, nb70_b9, nb9_b70, nb70_b57, nb57_b70, nb70_b11, nb11_b70, nb73_b3, nb3_b73, nb73_b8, nb8_b73, nb73_b9, nb9_b73, nb73_b57, nb57_b73, nb73_b11, nb11_b73, List.length_map, e1, e2, e3, e4, z1, hg, o1, o2, RR, seval, reduceCtorEq] at e
    have nb8_b76 : b8 ≠ b76 := fun e => nb76_b8 e.symm
    have nb76_b9 : b76 ≠ b9 := by rcases hn76 with e | e; rw [e]; exact nb73_b9; intro e2; rw [e2] at e; simp only [f1, f3, f6, f8, hb3, hb8, nb8_b3, nb3_b8, nb9_b3, nb3_b9, nb9_b8, nb8_b9, nb54_b3, nb3_b54, nb54_b8, nb8_b54, nb54_b9, nb9_b54, nb57_b3, nb3_b57, nb57_b8, nb8_b57, nb57_b9, nb9_b57, nb11_b3, nb3_b11, nb11_b8, nb8_b11, nb11_b9, nb9_b11, nb11_b57, nb57_b11, nb70_b3, nb3_b70, nb70_b8, nb8_b70, nb70_b9, nb9_b70, nb70_b57, nb57_b70, nb70_b11, nb11_b70, nb73_b3, nb3_b73, nb73_b8, nb8_b73, nb73_b9, nb9_b73, nb73_b57, nb57_b73, nb73_b11, nb11_b73, List.length_map, e1, e2, e3, e4, z1, hg, o1, o2, RR, seval, reduceCtorEq] at e
    have nb9_b76 : b9 ≠ b76 := fun e => nb76_b9 e.symm
    have nb76_b57 : b76 ≠ b57 := by rcases hn76 with e | e; rw [e]; exact nb73_b57; intro e2; rw [e2] at e; simp only [f1, f3, f6, f8, hb3, hb8, nb8_b3, nb3_b8, nb9_b3, nb3_b9, nb9_b8, nb8_b9, nb54_b3, nb3_b54, nb54_b8, nb8_b54, nb54_b9, nb9_b54, nb57_b3, nb3_b57, nb57_b8, nb8_b57, nb57_b9, nb9_b57, nb11_b3, nb3_b11, nb11_b8, nb8_b11, nb11_b9, nb9_b11, nb11_b57, nb57_b11, nb70_b3, nb3_b70, nb70_b8, nb8_b70, nb70_b9, nb9_b70, nb70_b57, nb57_b70, nb70_b11, nb11_b70, nb73_b3, nb3_b73, nb73_b8, nb8_b73, nb73_b9, nb9_b73, nb73_b57, nb57_b73, nb73_b11, nb11_b73, List.length_map, e1, e2, e3, e4, z1, hg, o1, o2, RR, seval, reduceCtorEq] at e
    have nb57_b76 : b57 ≠ b76 := fun e => nb76_b57 e.symm
    have nb76_b11 : b76 ≠ b11 := by rcases hn76 with e | e; rw [e]; exact nb73_b11; intro e2; rw [e2] at e; simp only [f1, f3, f6, f8, hb3, hb8, nb8_b3, nb3_b8, nb9_b3, nb3_b9, nb9_b8, nb8_b9, nb54_b3, nb3_b54, nb54_b8, nb8_b54, nb54_b9, nb9_b54, nb57_b3, nb3_b57, nb57_b8, nb8_b57, nb57_b9, nb9_b57, nb11_b3, nb3_b11, nb11_b8, nb8_b11, nb11_b9, nb9_b11, nb11_b57, nb57_b11, nb70_b3, nb3_b70, nb70_b8, nb8_b70, nb70_b9, nb9_b70, nb70_b57, nb57_b70, nb70_b11, nb11_b70, nb73_b3, nb3_b73, nb73_b8, nb8_b73, nb73_b9, nb9_b73, nb73_b57, nb57_b73, nb73_b11, nb11_b73, List.length_map, e1, e2, e3, e4, z1, hg, o1, o2, RR, seval, reduceCtorEq] at e
    have nb11_b76 : b11 ≠ b76 := fun e => nb76_b11 e.symm
    simp only [emitF, markOf, ne_eq, not_true_eq_false, and_false, false_and, not_false_eq_true, List.length_append, f1, f3, f6, f8, hb3, hb8, nb8_b3, nb3_b8, nb9_b3, nb3_b9, nb9_b8, nb8_b9, nb54_b3, nb3_b54, nb54_b8, nb8_b54, nb54_b9, nb9_b54, nb57_b3, nb3_b57, nb57_b8, nb8_b57, nb57_b9, nb9_b57, nb11_b3, nb3_b11, nb11_b8, nb8_b11, nb11_b9, nb9_b11, nb11_b57, nb57_b11, nb70_b3, nb3_b70, nb70_b8, nb8_b70, nb70_b9, nb9_b70, nb70_b57, nb57_b70, nb70_b11, nb11_b70, nb73_b3, nb3_b73, nb73_b8, nb8_b73, nb73_b9, nb9_b73, nb73_b57, nb57_b73, nb73_b11, nb11_b73, nb76_b3, nb3_b76, nb76_b8, nb8_b76, nb76_b9, nb9_b76, nb76_b57, nb57_b76, nb76_b11, nb11_b76, List.length_map, e1, e2, e3, e4, z1, hg, o1, o2, RR, seval]
    refine hK _ _ ?_; clear hK K
    refine awp_name fun F4 M4 hfr hH => ?_
    have g6 := hfr 6
    have g9 := hfr 9
    have g10 := hfr 10
    have g11 := hfr 11
    have gb3 := hH b3
    have gb8 := hH b8
    have gb9 := hH b9
    have gb57 := hH b57
    have gb11 := hH b11
    have gb76 := hH b76
    try simp only [f1, f3, f6, f8, hb3, hb8, nb8_b3, nb3_b8, nb9_b3, nb3_b9, nb9_b8, nb8_b9, nb54_b3, nb3_b54, nb54_b8, nb8_b54, nb54_b9, nb9_b54, nb57_b3, nb3_b57, nb57_b8, nb8_b57, nb57_b9, nb9_b57, nb11_b3, nb3_b11, nb11_b8, nb8_b11, nb11_b9, nb9_b11, nb11_b57, nb57_b11, nb70_b3, nb3_b70, nb70_b8, nb8_b70, nb70_b9, nb9_b70, nb70_b57, nb57_b70, nb70_b11, nb11_b70, nb73_b3, nb3_b73, nb73_b8, nb8_b73, nb73_b9, nb9_b73, nb73_b57, nb57_b73, nb73_b11, nb11_b73, nb76_b3, nb3_b76, nb76_b8, nb8_b76, nb76_b9, nb9_b76, nb76_b57, nb57_b76, nb76_b11, nb11_b76, List.length_map, e1, e2, e3, e4, z1, hg, o1, o2, RR, seval] at g6 g9 g10 g11 gb3 gb8 gb9 gb57 gb11 gb76
    have f6 := g6; clear g6
    have f9 := g9; clear g9
    have f10 := g10; clear g10
    have f11 := g11; clear g11
    have hb3 := gb3; clear gb3
    have hb8 := gb8; clear gb8
    have hb9 := gb9; clear gb9
    have hb57 := gb57; clear gb57
    have hb11 := gb11; clear gb11
    have hb76 := gb76; clear gb76
    clear hfr hH
    refine awp_freezeAll hb76 ?_
    refine awp_name fun F5 M5 hfr hH => ?_
    have g6 := hfr 6
    have g9 := hfr 9
    have g10 := hfr 10
    have g11 := hfr 11
    have gb3 := hH b3
    have gb8 := hH b8
    have gb9 := hH b9
    have gb57 := hH b57
    have gb11 := hH b11
    try simp only [frzO_rows, List.map_cons, List.map_nil, Option.map_some, frz_osl, frz_isl, frz_int, frz_str, frz_bool, frz_ptr, frz_nsl, frz_self, and_self, List.length_map, List.length_set, List.length_append, List.length_cons, List.length_nil, frz_rowsF flat_fu, f6, f9, f10, f11, hb3, hb8, hb9, hb57, hb11, nb8_b3, nb3_b8, nb9_b3, nb3_b9, nb9_b8, nb8_b9, nb54_b3, nb3_b54, nb54_b8, nb8_b54, nb54_b9, nb9_b54, nb57_b3, nb3_b57, nb57_b8, nb8_b57, nb57_b9, nb9_b57, nb11_b3, nb3_b11, nb11_b8, nb8_b11, nb11_b9, nb9_b11, nb11_b57, nb57_b11, nb70_b3, nb3_b70, nb70_b8, nb8_b70, nb70_b9, nb9_b70, nb70_b57, nb57_b70, nb70_b11, nb11_b70, nb73_b3, nb3_b73, nb73_b8, nb8_b73, nb73_b9, nb9_b73, nb73_b57, nb57_b73, nb73_b11, nb11_b73, nb76_b3, nb3_b76, nb76_b8, nb8_b76, nb76_b9, nb9_b76, nb76_b57, nb57_b76, nb76_b11, nb11_b76, List.length_map, e1, e2, e3, e4, z1, hg, o1, o2, RR, seval] at g6 g9 g10 g11 gb3 gb8 gb9 gb57 gb11
    have f6 := g6; clear g6
    have f9 := g9; clear g9
    have f10 := g10; clear g10
    have f11 := g11; clear g11
    have hb3 := gb3; clear gb3
    have hb8 := gb8; clear gb8
    have hb9 := gb9; clear gb9
    have hb57 := gb57; clear gb57
    have hb11 := gb11; clear gb11
    clear hfr hH
    refine awp_seq_k fun K hK => ?_
    refine awp_region rfl ?_
    simp only [f6, f9, f10, f11, hb3, hb8, hb9, hb57, hb11, nb8_b3, nb3_b8, nb9_b3, nb3_b9, nb9_b8, nb8_b9, nb54_b3, nb3_b54, nb54_b8, nb8_b54, nb54_b9, nb9_b54, nb57_b3, nb3_b57, nb57_b8, nb8_b57, nb57_b9, nb9_b57, nb11_b3, nb3_b11, nb11_b8, nb8_b11, nb11_b9, nb9_b11, nb11_b57, nb57_b11, nb70_b3, nb3_b70, nb70_b8, nb8_b70, nb70_b9, nb9_b70, nb70_b57, nb57_b70, nb70_b11, nb11_b70, nb73_b3, nb3_b73, nb73_b8, nb8_b73, nb73_b9, nb9_b73, nb73_b57, nb57_b73, nb73_b11, nb11_b73, nb76_b3, nb3_b76, nb76_b8, nb8_b76, nb76_b9, nb9_b76, nb76_b57, nb57_b76, nb76_b11, nb11_b76, List.length_map, e1, e2, e3, e4, z1, hg, o1, o2, RR, seval]
    refine hK _ _ ?_; clear hK K
    refine awp_name fun F6 M6 hfr hH => ?_
    have g6 := hfr 6
    have g9 := hfr 9
    have gb3 := hH b3
    have gb8 := hH b8
    have gb9 := hH b9
    have gb57 := hH b57
    have gb11 := hH b11
    try simp only [f6, f9, f10, f11, hb3, hb8, hb9, hb57, hb11, nb8_b3, nb3_b8, nb9_b3, nb3_b9, nb9_b8, nb8_b9, nb54_b3, nb3_b54, nb54_b8, nb8_b54, nb54_b9, nb9_b54, nb57_b3, nb3_b57, nb57_b8, nb8_b57, nb57_b9, nb9_b57, nb11_b3, nb3_b11, nb11_b8, nb8_b11, nb11_b9, nb9_b11, nb11_b57, nb57_b11, nb70_b3, nb3_b70, nb70_b8, nb8_b70, nb70_b9, nb9_b70, nb70_b57, nb57_b70, nb70_b11, nb11_b70, nb73_b3, nb3_b73, nb73_b8, nb8_b73, nb73_b9, nb9_b73, nb73_b57, nb57_b73, nb73_b11, nb11_b73, nb76_b3, nb3_b76, nb76_b8, nb8_b76, nb76_b9, nb9_b76, nb76_b57, nb57_b76, nb76_b11, nb11_b76, List.length_map, e1, e2, e3, e4, z1, hg, o1, o2, RR, seval] at g6 g9 gb3 gb8 gb9 gb57 gb11
    have f6 := g6; clear g6
    have f9 := g9; clear g9
    have hb3 := gb3; clear gb3
    have hb8 := gb8; clear gb8
    have hb9 := gb9; clear gb9
    have hb57 := gb57; clear gb57
    have hb11 := gb11; clear gb11
    clear hfr hH
    refine awp_freezeAll hb57 ?_
    refine awp_name fun F7 M7 hfr hH => ?_
    have g6 := hfr 6
    have g9 := hfr 9
    have gb3 := hH b3
    have gb8 := hH b8
    have gb9 := hH b9
    have gb11 := hH b11
    try simp only [frzO_rows, List.map_cons, List.map_nil, Option.map_some, frz_osl, frz_isl, frz_int, frz_str, frz_bool, frz_ptr, frz_nsl, frz_self, and_self, List.length_map, List.length_set, List.length_append, List.length_cons, List.length_nil, f6, f9, hb3, hb8, hb9, hb11, nb8_b3, nb3_b8, nb9_b3, nb3_b9, nb9_b8, nb8_b9, nb54_b3, nb3_b54, nb54_b8, nb8_b54, nb54_b9, nb9_b54, nb57_b3, nb3_b57, nb57_b8, nb8_b57, nb57_b9, nb9_b57, nb11_b3, nb3_b11, nb11_b8, nb8_b11, nb11_b9, nb9_b11, nb11_b57, nb57_b11, nb70_b3, nb3_b70, nb70_b8, nb8_b70, nb70_b9, nb9_b70, nb70_b57, nb57_b70, nb70_b11, nb11_b70, nb73_b3, nb3_b73, nb73_b8, nb8_b73, nb73_b9, nb9_b73, nb73_b57, nb57_b73, nb73_b11, nb11_b73, nb76_b3, nb3_b76, nb76_b8, nb8_b76, nb76_b9, nb9_b76, nb76_b57, nb57_b76, nb76_b11, nb11_b76, List.length_map, e1, e2, e3, e4, z1, hg, o1, o2, RR, seval] at g6 g9 gb3 gb8 gb9 gb11
    have f6 := g6; clear g6
    have f9 := g9; clear g9
    have hb3 := gb3; clear gb3
    have hb8 := gb8; clear gb8
    have hb9 := gb9; clear gb9
    have hb11 := gb11; clear gb11
    clear hfr hH
    refine awp_seq_k fun K hK => ?_
    refine awp_region rfl ?_
    simp only [f6, f9, hb3, hb8, hb9, hb11, nb8_b3, nb3_b8, nb9_b3, nb3_b9, nb9_b8, nb8_b9, nb54_b3, nb3_b54, nb54_b8, nb8_b54, nb54_b9, nb9_b54, nb57_b3, nb3_b57, nb57_b8, nb8_b57, nb57_b9, nb9_b57, nb11_b3, nb3_b11, nb11_b8, nb8_b11, nb11_b9, nb9_b11, nb11_b57, nb57_b11, nb70_b3, nb3_b70, nb70_b8, nb8_b70, nb70_b9, nb9_b70, nb70_b57, nb57_b70, nb70_b11, nb11_b70, nb73_b3, nb3_b73, nb73_b8, nb8_b73, nb73_b9, nb9_b73, nb73_b57, nb57_b73, nb73_b11, nb11_b73, nb76_b3, nb3_b76, nb76_b8, nb8_b76, nb76_b9, nb9_b76, nb76_b57, nb57_b76, nb76_b11, nb11_b76, List.length_map, e1, e2, e3, e4, z1, hg, o1, o2, RR, seval]
    refine awpC_pure' (c2) ?_
    simp only [f6, f9, hb3, hb8, hb9, hb11, nb8_b3, nb3_b8, nb9_b3, nb3_b9, nb9_b8, nb8_b9, nb54_b3, nb3_b54, nb54_b8, nb8_b54, nb54_b9, nb9_b54, nb57_b3, nb3_b57, nb57_b8, nb8_b57, nb57_b9, nb9_b57, nb11_b3, nb3_b11, nb11_b8, nb8_b11, nb11_b9, nb9_b11, nb11_b57, nb57_b11, nb70_b3, nb3_b70, nb70_b8, nb8_b70, nb70_b9, nb9_b70, nb70_b57, nb57_b70, nb70_b11, nb11_b70, nb73_b3, nb3_b73, nb73_b8, nb8_b73, nb73_b9, nb9_b73, nb73_b57, nb57_b73, nb73_b11, nb11_b73, nb76_b3, nb3_b76, nb76_b8, nb8_b76, nb76_b9, nb9_b76, nb76_b57, nb57_b76, nb76_b11, nb11_b76, List.length_map, e1, e2, e3, e4, z1, hg, o1, o2, RR, seval]
    refine hK _ _ ?_; clear hK K
    refine awp_ret ?_; simp only [bodyQ, aresult, ares, f6, f9, hb3, hb8, hb9, hb11, nb8_b3, nb3_b8, nb9_b3, nb3_b9, nb9_b8, nb8_b9, nb54_b3, nb3_b54, nb54_b8, nb8_b54, nb54_b9, nb9_b54, nb57_b3, nb3_b57, nb57_b8, nb8_b57, nb57_b9, nb9_b57, nb11_b3, nb3_b11, nb11_b8, nb8_b11, nb11_b9, nb9_b11, nb11_b57, nb57_b11, nb70_b3, nb3_b70, nb70_b8, nb8_b70, nb70_b9, nb9_b70, nb70_b57, nb57_b70, nb70_b11, nb11_b70, nb73_b3, nb3_b73, nb73_b8, nb8_b73, nb73_b9, nb9_b73, nb73_b57, nb57_b73, nb73_b11, nb11_b73, nb76_b3, nb3_b76, nb76_b8, nb8_b76, nb76_b9, nb9_b76, nb76_b57, nb57_b76, nb76_b11, nb11_b76, List.length_map, e1, e2, e3, e4, z1, hg, o1, o2, RR, seval]
    refine Gives.pure ?_
    rfl
end Go.Proofs.Ytnbokmbjiioooaa
