/- Chapter 18, the judge's: a function's body; a call. Chapter 18, the judge's: a call. Chapter 18, the judge's: statements one behind the other. Chapter 18, the judge's: a statement: what sets, stores, puts, calls, returns. Chapter 18, the judge's: a statement: what stores, puts; an if. Chapter 18, the judge's: a loop; a statement; all at a depth. Chapter 18, the judge's: Run. -/
import Derived.Test.YtlokndnkpleegaaMj1
import Derived.Test.YtlokndnkpleegaaM18l
import Derived.Test.YtlokndnkpleegaaM18m
import Derived.Test.YtlokndnkpleegaaMz
set_option linter.unusedSimpArgs false
set_option linter.unusedVariables false
set_option maxRecDepth 10000
namespace Go.Al
section
variable {p : Pg} {cx : Cx} {r : Nat} {vv vo wv wv' : AV} {abs : List Nat} {st : RS} {en : Int} {ow : List Int} {ys : List (List AV)} {H H' : Hp}
theorem RunJ.grow (h : RunJ p cx r vv abs st vo en H) (hw : OwnW vv abs vo wv ow H) (hk : ∀ b o, H b = some o → wv ≠ .osl 1 b (ow.map rowU).length → H' b = some o) : RunJ p cx r vv abs st vo en H' := by
  have own : ∀ {v : AV} {rows : List (List AV)}, OwnL 1 v rows H → (∀ s b n, v = .osl s b n → Al.off wv b) → OwnL 1 v rows H' := fun h ho => by
    rcases h with g | ⟨b, e, hb⟩
    · exact .inl g
    · exact .inr ⟨b, e, hk b _ hb (ho _ _ _ e _ _)⟩
  refine { h with r := hk _ _ h.r (hw.h.offsz h.r (by decide) _ _), v := own h.v fun s b n e s' n' e' => hw.nv _ _ _ e' _ _ e, a := fun i b l h1 h2 => hk _ _ (h.a i b l h1 h2) fun e => hw.na _ _ _ e (List.mem_of_getElem? h1), o := own h.o fun s b n e s' n' e' => hw.nf _ _ _ e' _ _ e }
theorem OwnW.grow (hw : OwnW vv abs vo wv ow H) (h : RunJ p cx r vv abs st vo en H) {x : Int} (ho : OwnL 1 wv' (ow.map rowU ++ [[.int .u32 x]]) H') (hg : ∀ b, Al.off wv b → H b ≠ none → Al.off wv' b) : OwnW vv abs vo wv' (ow ++ [x]) H' := by
  have some' : ∀ {v : AV} {rows : List (List AV)} {s b n : Nat}, OwnL 1 v rows H → v = .osl s b n → H b ≠ none := fun h e => h.there _ _ _ e
  refine ⟨by rw [List.map_append]; exact ho, fun s b n e s' n' e' => ?_, fun s b n e hm => ?_, fun s b n e s' n' e' => ?_⟩
  · exact hg b (fun s2 n2 e2 => hw.nv _ _ _ e2 _ _ e') (some' h.v e') _ _ e
  · obtain ⟨l, hl⟩ := h.abs_some hm
    exact hg b (fun s2 n2 e2 => hw.na _ _ _ e2 hm) (by rw [hl]; exact Option.some_ne_none _) _ _ e
  · exact hg b (fun s2 n2 e2 => hw.nf _ _ _ e2 _ _ e') (some' h.o e') _ _ e
theorem OwnW.nil : OwnW vv abs vo .nsl [] H := ⟨.inl ⟨rfl, rfl⟩, (fun _ _ _ e => by cases e), (fun _ _ _ e => by cases e), (fun _ _ _ e => by cases e)⟩
theorem OwnW.other {wv2 : AV} {ow2 : List Int} (h : OwnW vv abs vo wv2 ow2 H) (hap : ∀ s b n, wv2 = .osl s b n → Al.off wv b) (hk : ∀ b o, H b = some o → wv ≠ .osl 1 b (ow.map rowU).length → H' b = some o) : OwnW vv abs vo wv2 ow2 H' := by
  refine { h with h := ?_ }
  rcases h.h with g | ⟨b, e, hb⟩
  · exact .inl g
  · exact .inr ⟨b, e, hk b _ hb (hap _ _ _ e _ _)⟩
end
end Go.Al
namespace Go.Proofs.Ytlokndnkpleegaa
open Go.Al
/-- what the runs of a program ask of it -/
structure JOk (p : Pg) (cx : Cx) : Prop where
  funs : cx.funs = p.funs.map (cfP (outP p))
  cx : CxOk cx
  uses : ∀ (j : Nat) g, p.funs[j]? = some g → ∀ u ∈ usesS g.body, UJ p j (rsP (outP p) (inP g)) u
  f : p.funs.length ≤ 10000
section
variable {p : Pg} {cx : Cx} {r : Nat} {vv : AV} {abs : List Nat} {n : Nat}
set_option maxHeartbeats 2000000 in
theorem jbody_con (ih : PrgJ p cx r vv abs n) (hj : JOk p cx) (j : Nat) (g : Fu) (hg : p.funs[j]? = some g) (ws : List Int) (st : RS) (vo : AV) (H : Hp) (wv : AV) (ro : Rz (Option Int × List Int)) (hR : RunJ p cx r vv abs st vo 0 H) (hW : OwnW vv abs vo wv ws H) (hu : ∀ y ∈ ws, u32R y) (hl : ws.length ≤ 3000000) (hll : g.locs.length ≤ 3000000) (h : evL cx n (rsP (outP p) (inP g)) (ws ++ List.replicate g.locs.length 0) g.body st = some ro) :
    Con env 35 [.ptr 11 r 0 0, .int .i64 j, wv] H (fun ae H' => ∃ w vo', ae = .ret (.int .u32 w) ∧ u32R w ∧ (∀ q s, ro = .val q s → w = q.1.getD 0) ∧ (∀ e s, ro = .fin e s → e ≠ 0) ∧ RunJ p cx r vv abs ro.st vo' (enR ro) H' ∧ keepsW r vv abs vo vo' r wv H H') := by
  have hr := hR.r
  have hgr := getF hg
  have hjl := (List.getElem?_eq_some_iff.1 hg).1
  have hbd : okS g.body := by
    have := hj.cx.body (cfP (outP p) g) (by rw [hj.funs]; exact List.mem_map.2 ⟨g, List.mem_of_getElem? hg, rfl⟩)
    exact this
  have hus := hj.uses j g hg
  obtain ⟨HX, hHX⟩ : ∃ X, X = H := ⟨_, rfl⟩
  refine con_of 46 [.tmp 6] Try.func35 rfl rfl rfl rfl ?_
  refine awp_seq_k fun K hK => ?_
  refine awp_region rfl ?_
  simp only [hgr, List.length_map, RR, seval]
  refine hK _ _ ?_; clear hK K
  refine awp_seq ?_
  refine awp_seq_k fun K hK => ?_
  refine awp_region rfl ?_
  simp only [hgr, List.length_map, RR, seval]
  refine hK _ _ ?_; clear hK K
  refine awp_name fun F1 M1 hfr hH => ?_
  have g0 := hfr 0
  have g1 := hfr 1
  have g2 := hfr 2
  have g6 := hfr 6
  have g7 := hfr 7
  have gr := hH r
  try simp only [hr, hgr, List.length_map, RR, seval] at g0 g1 g2 g6 g7 gr
  have hM := funext hH
  have f0 := g0; clear g0
  have f1 := g1; clear g1
  have f2 := g2; clear g2
  have f6 := g6; clear g6
  have f7 := g7; clear g7
  have hr := gr; clear gr
  clear hfr hH
  refine awp_block ?_
  refine awp_each [0, 1, 6] (g.locs.length) (fun k fr M => fr 7 = .int .i64 (k : Nat) ∧ ∃ wk, fr 2 = wk ∧ OwnW vv abs vo wk (ws ++ List.replicate k 0) M ∧ RunJ p cx r vv abs st vo 0 M ∧ (∀ b o, HX b = some o → Al.off wv b → M b = some o ∧ Al.off wk b)) ⟨f7, wv, f2, (by rw [hM, List.replicate_zero, List.append_nil]; exact hW), (by rw [hM]; exact hR), (fun b o h1 h2 => ⟨by rw [hM, ← hHX]; exact h1, h2⟩)⟩ ?_
  rintro k F2 M2 hk0 ⟨fx, wk, f2, hWk, hRk, hgk⟩ agx K0 hK0
  have f0 := (agx 0 rfl).trans f0
  have f1 := (agx 1 rfl).trans f1
  have f6 := (agx 6 rfl).trans f6
  have f7 := fx; clear fx
  have ag0 := agree.refl [0, 1, 6] F2
  clear agx
  have hr := hRk.r
  refine awp_seq ?_
  refine awp_seq_k fun K hK => ?_
  refine awp_region rfl ?_
  simp only [f0, f1, f7, hr, hgr, List.length_map, RR, seval]
  refine hK _ _ ?_; clear hK K
  refine awp_if _ rfl (fun hc => ?_) (fun hc => ?_)
  · have hlt0 : k < g.locs.length := by have := of_decide_eq_true hc; omega
    clear hc
    have hrep : List.replicate (k + 1) (0 : Int) = List.replicate k 0 ++ [0] := List.replicate_succ'
    have hlk : (ws ++ List.replicate k (0 : Int)).length ≤ 6000000 := by rw [List.length_append, List.length_replicate]; omega
    refine awp_skip ?_; try simp only [RR]
    refine awp_seq ?_
    refine awp_block ?_
    refine awp_region rfl ?_
    simp only [f0, f1, f6, f7, f2, hr, hgr, List.length_map, RR, seval]
    refine awpB_sealed ?_
    simp only [f0, f1, f6, f7, f2, hr, hgr, List.length_map, RR, seval]
    refine awpA_ownF hWk.h (by simp only [List.length_map, List.length_cons, List.length_nil]; omega) (fun _ _ => trivial) fun v' H' ho' hk' hg' => ?_
    simp only [f0, f1, f6, f7, f2, hr, hgr, List.length_map, RR, seval]
    have hR' := hRk.grow hWk hk'
    have hW' := hWk.grow hRk ho' hg'
    have hr := hR'.r
    rw [List.append_assoc, ← hrep] at hW'
    have hgk' : ∀ b o, HX b = some o → Al.off wv b → H' b = some o ∧ Al.off v' b := fun b o h1 h2 => by
      obtain ⟨g1, g2⟩ := hgk b o h1 h2
      exact ⟨hk' b _ g1 (g2 _ _), hg' b g2 (by rw [g1]; exact Option.some_ne_none _)⟩
    refine awp_region rfl ?_
    simp only [f7, hgr, List.length_map, RR, seval]
    try rw [IntWalk.i64_in _ (by omega)]
    refine hK0 _ _ hlt0 ⟨by first | rfl | (simp only [upd_app, seval]; rfl), v', rfl, hW', hR', hgk'⟩ (by repeat (first | exact ag0 | refine agree.upd rfl ?_))
  · have hkn0 : k = g.locs.length := by have := of_decide_eq_false hc; omega
    clear hc
    rw [hkn0] at hWk
    have hce := hWk.h.cells
    have hoe := hWk.h.one1
    refine awp_exit ?_; simp only [RR, seval]
    refine awp_seq_k fun K hK => ?_
    refine awp_region rfl ?_
    simp only [f1, f2, hr, hgr, List.length_map, hce, hoe, Option.bind_some, List.drop, RR, seval]
    refine awpN_intro fun b29 hn29 => ?_
    have nb29_r : b29 ≠ r := fun e => by rw [e] at hn29; simp only [hr, RR, seval, reduceCtorEq] at hn29
    have nr_b29 : r ≠ b29 := fun e => nb29_r e.symm
    simp only [f1, f2, hr, nb29_r, nr_b29, hgr, List.length_map, hce, hoe, Option.bind_some, List.drop, RR, seval]
    refine hK _ _ ?_; clear hK K
    refine awp_name fun F3 M3 hfr hH => ?_
    have g0 := hfr 0
    have g1 := hfr 1
    have g6 := hfr 6
    have g8 := hfr 8
    have gr := hH r
    have gb29 := hH b29
    try simp only [f0, f1, f6, f7, f2, hr, nb29_r, nr_b29, hgr, List.length_map, hce, hoe, Option.bind_some, List.drop, RR, seval] at g0 g1 g6 g8 gr gb29
    have hM2 := funext hH
    have f0 := g0; clear g0
    have f1 := g1; clear g1
    have f6 := g6; clear g6
    have f8 := g8; clear g8
    have hr := gr; clear gr
    have hb29 := gb29; clear gb29
    clear hfr hH
    have hR2 := (hRk.new hn29 (some (.rows 4 [[.int .i64 j, wk, .bool false, .int .u32 0]])))
    have hW2 := (hWk.new hn29 (some (.rows 4 [[.int .i64 j, wk, .bool false, .int .u32 0]])))
    rw [← hM2] at hR2 hW2
    have huw : ∀ y ∈ ws ++ List.replicate g.locs.length 0, u32R y := fun y hy => by
      rcases List.mem_append.1 hy with hy | hy
      · exact hu y hy
      · rw [(List.mem_replicate.1 hy).2]; simp [u32R]
    have hL := ih.L j (rsP (outP p) (inP g)) (ws ++ List.replicate g.locs.length 0) g.body st vo 0 M3 b29 wk false 0 ro hbd hus hR2 hW2 huw hb29 (by simp [u32R]) (fun _ => rfl) (fun _ => rfl) (.inl ⟨rfl, h⟩)
    refine awp_seq_k fun K hK => ?_
    refine awp_region rfl ?_
    simp only [f0, f1, f8, hr, hb29, nb29_r, nr_b29, hgr, List.length_map, hce, hoe, Option.bind_some, List.drop, RR, seval]
    refine awpC_T hL (fun _ => trivial) fun ow' bk' vl' vo' H' g1 g2 g3 g4 g5 g6 g7 g8 g9 g10 => ?_
    have hb29 := g7
    simp only [RR, seval]
    refine hK _ _ ?_; clear hK K
    refine awp_seq_k fun K hK => ?_
    refine awp_region rfl ?_
    simp only [f8, hr, hb29, nb29_r, nr_b29, hgr, List.length_map, hce, hoe, Option.bind_some, List.drop, RR, seval]
    refine hK _ _ ?_; clear hK K
    refine awp_ret ?_; simp only [bodyQ, aresult, ares, f6, hgr, List.length_map, hce, hoe, Option.bind_some, List.drop, RR, seval]
    refine Gives.run ⟨vl', vo', rfl, g3, (fun q s e => (g5 q s e).2.2), g6, g9, fun b o hb h1 h2 h3 h4 _ h5 => ?_⟩
    rw [← hHX] at hb
    obtain ⟨q1, q2⟩ := hgk b o hb h5
    have q3 : b ≠ b29 := fun e => by rw [e, hn29] at q1; cases q1
    exact g10 b o (by rw [hM2, upd_ne _ _ q3]; exact q1) h1 h2 h3 h4 q3 q2
end
end Go.Proofs.Ytlokndnkpleegaa

namespace Go.Proofs.Ytlokndnkpleegaa
open Go.Al
section
variable {p : Pg} {cx : Cx} {r : Nat} {vv : AV} {abs : List Nat} {n : Nat}
set_option maxHeartbeats 4000000 in
theorem jcall_step (ih : PrgJ p cx r vv abs n) (hj : JOk p cx) (i : Nat) (rs : Str → Bool × Int) (ow : List Int) (s : Str) (l : List Ex) (st : RS) (vo : AV) (H : Hp) (x : Nat) (wv : AV) (bk : Bool) (vl : Int) (o : Rz Int) (hl : okE l) (hU : UJ p i rs ⟨s, 4, l.length⟩) (hK : ∀ u ∈ usesE l, UJ p i rs u) (hR : RunJ p cx r vv abs st vo 0 H) (hW : OwnW vv abs vo wv ow H) (hu : ∀ y ∈ ow, u32R y) (hx : H x = some (.rows 4 [[.int .i64 i, wv, .bool bk, .int .u32 vl]])) (h : evC cx (n + 1) rs ow (rs s).2 l st = some o) :
    Con env 55 [.ptr 11 r 0 0, .ptr 4 x 0 0, .str s, .isl 5 (l.map Ex.row)] H (postJ p cx r vv abs vo H o) := by
  have hr := hR.r
  have hfit := hl.fit
  simp only [fitL] at hfit
  have nxr : x ≠ r := fun e => by rw [e, hr] at hx; cases hx
  have nrx : r ≠ x := fun e => nxr e.symm
  have hpav : p.av = .agg [.isl 1 (p.vars.map strRow), .isl 2 (p.arrs.map Ar.row), .isl 5 (p.funs.map Fu.row)] := rfl
  have hF := hU.f
  rw [hpav] at hF
  simp only at hF
  obtain ⟨hk1, hk2, g, hg, hgl⟩ := hU.k4
  generalize findF p i s = fi at hF hk1 hk2 hg
  obtain ⟨kk, ii⟩ := fi
  simp only at hF hk1 hk2 hg
  subst hk1
  rw [hk2] at h
  simp only [evC] at h
  by_cases z0 : ii < 0
  · rw [if_pos z0] at h; cases h
  rw [if_neg z0] at h
  obtain ⟨j, rfl⟩ := Int.eq_ofNat_of_zero_le (show 0 ≤ ii by omega)
  rw [Int.toNat_natCast] at h hg
  have hcf : cx.funs[j]? = some (cfP (outP p) g) := by rw [hj.funs, List.getElem?_map, hg]; rfl
  rw [hcf] at h
  simp only at h
  have hfw : (cfP (outP p) g).words = g.params.length + g.locs.length := rfl
  have hfr : (cfP (outP p) g).res = rsP (outP p) (inP g) := rfl
  have hfb : (cfP (outP p) g).body = g.body := rfl
  have hwords := hj.cx.words (cfP (outP p) g) (List.mem_of_getElem? hcf)
  have hgl' : g.params.length = l.length := by omega
  by_cases hw : (cfP (outP p) g).words < l.length
  · rw [if_pos hw] at h; cases h
  rw [if_neg hw] at h
  obtain ⟨ra, hA, h⟩ : ∃ ra, evA cx n rs ow l st = some ra ∧ bindR (some ra) (fun vs s => restC cx n (cfP (outP p) g) l.length vs s) = some o := by
    cases hA : evA cx n rs ow l st with
    | none => rw [hA] at h; cases h
    | some ra => rw [hA] at h; exact ⟨ra, rfl, h⟩
  obtain ⟨HX, hHX⟩ : ∃ X, X = H := ⟨_, rfl⟩
  generalize hfeq : cfP (outP p) g = f at *
  refine con_of 58 [.tmp 8] Try.func55 rfl rfl rfl rfl ?_
  refine awp_seq_k fun K hK => ?_
  refine awp_region rfl ?_
  simp only [List.length_map, RR, seval]
  refine hK _ _ ?_; clear hK K
  refine awp_seq_k fun K hK => ?_
  refine awp_region_draw2 (fun x => x ≠ r ∧ x ≠ x) [(0, 3), (1, 3), (2, 3), (3, 1), (4, 3), (5, 3), (6, 3), (7, 1), (8, 3), (9, 1), (10, 3), (11, 3), (12, 3), (13, 3), (14, 3)] [] draws (by kernel_rfl) rfl rfl ?_
  simp only [emitF, markOf, EM, hr, hx, nxr, nrx, List.length_map, RR, seval]
  refine awpC_pure' (hF) ?_
  simp only [emitF, markOf, EM, hr, hx, nxr, nrx, List.length_map, RR, seval]
  refine hK _ _ ?_; clear hK K
  refine awp_seq_k fun K hK => ?_
  refine awp_region rfl ?_
  simp only [List.length_map, RR, seval]
  refine hK _ _ ?_; clear hK K
  refine awp_seq ?_
  refine awp_seq_k fun K hK => ?_
  refine awp_region rfl ?_
  simp only [List.length_map, RR, seval]
  refine hK _ _ ?_; clear hK K
  refine awp_name fun F1 M1 hfr hH => ?_
  have g0 := hfr 0
  have g1 := hfr 1
  have g3 := hfr 3
  have g8 := hfr 8
  have g10 := hfr 10
  have g11 := hfr 11
  have g12 := hfr 12
  have gr := hH r
  have gx := hH x
  try simp only [hr, hx, nxr, nrx, List.length_map, RR, seval] at g0 g1 g3 g8 g10 g11 g12 gr gx
  have hM := funext hH
  have f0 := g0; clear g0
  have f1 := g1; clear g1
  have f3 := g3; clear g3
  have f8 := g8; clear g8
  have f10 := g10; clear g10
  have f11 := g11; clear g11
  have f12 := g12; clear g12
  have hr := gr; clear gr
  have hx := gx; clear gx
  clear hfr hH
  refine awp_block ?_
  refine awp_each [0, 1, 3, 8, 10] (l.length) (fun k fr M => fr 12 = .int .i64 (k : Nat) ∧ ∃ stk vok enk wk vs, fr 11 = wk ∧ vs.length = k ∧ (∀ y ∈ vs, u32R y) ∧ OwnW vv abs vok wk vs M ∧ RunJ p cx r vv abs stk vok enk M ∧ OwnW vv abs vok wv ow M ∧ (∀ s b n, wv = .osl s b n → Al.off wk b) ∧ M x = some (.rows 4 [[.int .i64 i, wv, .bool bk, .int .u32 vl]]) ∧ (∀ b o, HX b = some o → b ≠ r → Al.off vv b → b ∉ abs → Al.off vo b → M b = some o ∧ Al.off vok b ∧ Al.off wk b) ∧ ((enk = 0 ∧ ∃ m rk, m ≤ n ∧ evA cx m rs ow (l.drop k) stk = some rk ∧ bindR (some rk) (fun vs' s => restC cx n f l.length (vs ++ vs') s) = some o) ∨ (enk ≠ 0 ∧ o = .fin enk stk))) ⟨f12, st, vo, 0, .nsl, [], f11, rfl, (fun y hy => by cases hy), OwnW.nil, (by rw [hM]; exact hR), (by rw [hM]; exact hW), (fun _ _ _ _ _ _ e => by cases e), hx, (fun b o h1 _ _ _ h2 => ⟨by rw [hM, ← hHX]; exact h1, h2, fun _ _ e => by cases e⟩), .inl ⟨rfl, n, ra, Nat.le_refl _, hA, by simpa using h⟩⟩ ?_
  rintro k F2 M2 hk0 ⟨fx, stk, vok, enk, wk, vs, f11, hvs, huv, hOw, hRk, hOo, hap, hx, hkk, hcase⟩ agx K0 hK0
  have f0 := (agx 0 rfl).trans f0
  have f1 := (agx 1 rfl).trans f1
  have f3 := (agx 3 rfl).trans f3
  have f8 := (agx 8 rfl).trans f8
  have f10 := (agx 10 rfl).trans f10
  have f12 := fx; clear fx
  have ag0 := agree.refl [0, 1, 3, 8, 10] F2
  clear agx
  have hr := hRk.r
  clear h hA
  refine awp_seq ?_
  refine awp_seq_k fun K hK => ?_
  refine awp_region rfl ?_
  simp only [f3, f12, hr, hx, nxr, nrx, List.length_map, RR, seval]
  refine hK _ _ ?_; clear hK K
  refine awp_if _ rfl (fun hc => ?_) (fun hc => ?_)
  · have hlt0 : k < l.length := by have := of_decide_eq_true hc; omega
    clear hc
    have hg0 := List.getElem?_eq_getElem hlt0
    have hdk : l.drop k = l[k] :: l.drop (k + 1) := List.drop_eq_getElem_cons hlt0
    generalize l[k] = a at hg0 hdk
    have hge := getE hg0
    rw [hdk] at hcase
    obtain ⟨r1, hcont, hnext⟩ : ∃ r1, contJ enk stk (evE cx n rs ow a stk) r1 ∧ ∀ w, (∀ v s, r1 = .val v s → w = v) → (∀ e s, r1 = .fin e s → e ≠ 0) → ((enR r1 = 0 ∧ ∃ m rk, m ≤ n ∧ evA cx m rs ow (l.drop (k + 1)) r1.st = some rk ∧ bindR (some rk) (fun vs' s => restC cx n f l.length ((vs ++ [w]) ++ vs') s) = some o) ∨ (enR r1 ≠ 0 ∧ o = .fin (enR r1) r1.st)) := by
      rcases hcase with ⟨he, m, rk, hmn, hAk, hk⟩ | ⟨he, ho⟩
      rotate_left
      · exact ⟨.fin enk stk, .inr ⟨he, rfl⟩, fun _ _ _ => .inr ⟨he, ho⟩⟩
      obtain ⟨m', rfl⟩ : ∃ m', m = m' + 1 := by
        cases m with
        | zero => simp [evA] at hAk
        | succ m' => exact ⟨m', rfl⟩
      simp only [evA] at hAk
      obtain ⟨r1, h1⟩ : ∃ r1, evE cx m' rs ow a stk = some r1 := by
        cases h1 : evE cx m' rs ow a stk with
        | none => rw [h1] at hAk; cases hAk
        | some r1 => exact ⟨r1, rfl⟩
      rw [h1] at hAk
      refine ⟨r1, .inl ⟨he, evE_deep (by omega) h1⟩, fun w hwv hne => ?_⟩
      cases r1 with
      | fin e s =>
        obtain rfl := Option.some.inj (show some (Rz.fin e s) = some rk from hAk)
        exact .inr ⟨hne _ _ rfl, (Option.some.inj (show some (Rz.fin e s) = some o from hk)).symm⟩
      | val x1 s1 =>
        obtain rfl := hwv _ _ rfl
        simp only [bindR] at hAk
        obtain ⟨r', h2⟩ : ∃ r', evA cx m' rs ow (l.drop (k + 1)) s1 = some r' := by
          cases h2 : evA cx m' rs ow (l.drop (k + 1)) s1 with
          | none => rw [h2] at hAk; cases hAk
          | some r' => exact ⟨r', rfl⟩
        rw [h2] at hAk
        refine .inl ⟨rfl, m', r', by omega, h2, ?_⟩
        cases r' with
        | fin e s =>
          obtain rfl := Option.some.inj (show some (Rz.fin e s) = some rk from hAk)
          exact hk
        | val vs' s =>
          obtain rfl := Option.some.inj (show some (Rz.val (w :: vs') s) = some rk from hAk)
          simpa [bindR] using hk
    have ham := List.mem_of_getElem? hg0
    have hV := ih.V i rs ow a stk vok enk M2 x wv bk vl r1 (hl.all _ ham) (fun u hu => hK u ((usesE_mem ham).1 u hu)) (fun u hu => hK u ((usesE_mem ham).2 u hu)) hRk hOo hu hx hcont
    rw [a.row_eq] at hV
    refine awp_skip ?_; try simp only [RR]
    refine awp_seq ?_
    refine awp_block ?_
    refine awp_region rfl ?_
    simp only [f0, f1, f3, f8, f10, f12, f11, hr, hx, nxr, nrx, List.length_map, hge, RR, seval]
    refine awpC_J hV (fun _ => trivial) fun w vo1 H1 uw hwv hne hR1 hk1 => ?_
    have hOw1 := hOw.keep hRk hk1
    have hOo1 := hOo.keep hRk hk1
    have hx1 := hRk.keep hx (by decide) (by decide) hk1
    simp only [f0, f1, f3, f8, f10, f12, f11, hr, hx, nxr, nrx, List.length_map, hge, RR, seval]
    refine awpB_sealed ?_
    simp only [f0, f1, f3, f8, f10, f12, f11, hr, hx, nxr, nrx, List.length_map, hge, RR, seval]
    refine awpA_ownF hOw1.h (by simp only [List.length_map, List.length_cons, List.length_nil]; omega) (fun _ _ => trivial) fun v' H2 ho' hk' hg' => ?_
    simp only [f0, f1, f3, f8, f10, f12, f11, hr, hx, nxr, nrx, List.length_map, hge, RR, seval]
    have hR2 := hR1.grow hOw1 hk'
    have hW2 := hOw1.grow hR1 ho' hg'
    have hOo2 := hOo1.other hap hk'
    have hx2 := hk' x _ hx1 (hOw1.h.offsz hx1 (by decide) _ _)
    have hap2 : ∀ s b n, wv = .osl s b n → Al.off v' b := fun s b n e => hg' b (hap s b n e) (hOo1.h.there _ _ _ e)
    have hkk2 : ∀ b o, HX b = some o → b ≠ r → Al.off vv b → b ∉ abs → Al.off vo b → H2 b = some o ∧ Al.off vo1 b ∧ Al.off v' b := fun b o hb h1 h2 h3 h4 => by
      obtain ⟨q1, q2, q3⟩ := hkk b o hb h1 h2 h3 h4
      obtain ⟨q4, q5⟩ := hk1 b o q1 h1 h2 h3 q2
      exact ⟨hk' b o q4 (q3 _ _), q5, hg' b q3 (by rw [q4]; exact Option.some_ne_none _)⟩
    refine awp_region rfl ?_
    simp only [f12, List.length_map, hge, RR, seval]
    try rw [IntWalk.i64_in _ (by omega)]
    refine hK0 _ _ hlt0 ⟨by first | rfl | (simp only [upd_app, seval]; rfl), r1.st, vo1, enR r1, v', vs ++ [w], rfl, (by simp [hvs]), (fun y hy => by rcases List.mem_append.1 hy with hy | hy; exact huv y hy; rw [List.mem_singleton.1 hy]; exact uw), hW2, hR2, hOo2, hap2, hx2, hkk2, hnext w hwv hne⟩ (by repeat (first | exact ag0 | refine agree.upd rfl ?_))
  · have hkn0 : k = l.length := by have := of_decide_eq_false hc; omega
    clear hc
    rw [hkn0, List.drop_length] at hcase
    rw [hkn0] at hvs
    have hcase : (enk = 0 ∧ restC cx n f l.length vs stk = some o) ∨ (enk ≠ 0 ∧ o = .fin enk stk) := by
      rcases hcase with ⟨he, m, rk, _, hAk, hk⟩ | hc
      · refine .inl ⟨he, ?_⟩
        cases m with
        | zero => simp [evA] at hAk
        | succ m' =>
          simp only [evA, Option.some.injEq] at hAk
          subst hAk
          simpa [bindR] using hk
      · exact .inr hc
    refine awp_exit ?_; simp only [RR, seval]
    refine awp_seq ?_
    refine awp_seq_k fun K hK => ?_
    refine awp_region rfl ?_
    simp only [f0, hr, hx, nxr, nrx, List.length_map, RR, seval]
    refine hK _ _ ?_; clear hK K
    refine awp_if _ rfl (fun hc7 => ?_) (fun hc7 => ?_)
    · have he0 : enk = 0 := by simpa using hc7
      subst he0
      have hk2 : restC cx n f l.length vs stk = some o := by
        rcases hcase with ⟨_, h⟩ | ⟨h, _⟩
        · exact h
        · exact absurd rfl h
      have hT := jtick_con hj.cx hRk
      unfold restC at hk2
      generalize hTT : tickR cx stk = tt at hk2 hT
      have hend : (∃ e s, tt = .fin e s ∧ o = .fin e s) ∨ ∃ s ro, tt = .val () s ∧ evL cx n f.res (vs ++ List.replicate (f.words - l.length) 0) f.body s = some ro ∧ bindR (some ro) (fun r st => some (Rz.val (r.1.getD 0) st)) = some o := by
        cases tt with
        | fin e s => exact .inl ⟨e, s, rfl, (Option.some.inj (show some (Rz.fin e s) = some o from hk2)).symm⟩
        | val q s =>
          simp only [bindR] at hk2
          cases hL : evL cx n f.res (vs ++ List.replicate (f.words - l.length) 0) f.body s with
          | none => rw [hL] at hk2; cases hk2
          | some ro => rw [hL] at hk2; exact .inr ⟨s, ro, rfl, hL, hk2⟩
      refine awp_region rfl ?_
      simp only [f0, hr, hx, nxr, nrx, List.length_map, RR, seval]
      refine awpC_tick hT (fun _ => trivial) fun H1 hne1 hR1 hk1 => ?_
      have hr := hR1.r
      have hOw := hOw.keep hRk hk1
      have hkk : ∀ b o, HX b = some o → b ≠ r → Al.off vv b → b ∉ abs → Al.off vo b → H1 b = some o ∧ Al.off vok b ∧ Al.off wk b := fun b o hb h1 h2 h3 h4 => by
        obtain ⟨q1, q2, q3⟩ := hkk b o hb h1 h2 h3 h4
        obtain ⟨q4, q5⟩ := hk1 b o q1 h1 h2 h3 q2
        exact ⟨q4, q5, q3⟩
      simp only [RR, seval]
      refine awp_seq ?_
      refine awp_seq_k fun K hK => ?_
      refine awp_region rfl ?_
      simp only [f0, hr, hx, nxr, nrx, List.length_map, RR, seval]
      refine hK _ _ ?_; clear hK K
      refine awp_if _ rfl (fun hc9 => ?_) (fun hc9 => ?_)
      · obtain ⟨e1, s1, rfl⟩ := enR_fin (o := tt) (by simpa using hc9)
        obtain ho : o = .fin e1 s1 := by
          rcases hend with ⟨e, s, h1, h2⟩ | ⟨_, _, h1, _⟩
          · cases h1; exact h2
          · cases h1
        subst ho
        refine awp_seq_k fun K hK => ?_
        refine awp_region rfl ?_
        simp only [List.length_map, RR, seval]
        refine hK _ _ ?_; clear hK K
        refine awp_ret ?_; simp only [bodyQ, aresult, ares, f8, List.length_map, RR, seval]
        exact Gives.run ⟨0, vok, rfl, by simp [u32R], (fun _ _ e => by cases e), (fun e s h => by cases h; exact hne1 _ _ rfl), hR1, fun b o hb h1 h2 h3 h4 => by obtain ⟨q1, q2, _⟩ := hkk b o (by rw [hHX]; exact hb) h1 h2 h3 h4; exact ⟨q1, q2⟩⟩
      · obtain ⟨_, s1, rfl⟩ := enR_val (o := tt) hne1 (by simpa using hc9)
        obtain ⟨ro, hL, hro⟩ : ∃ ro, evL cx n f.res (vs ++ List.replicate (f.words - l.length) 0) f.body s1 = some ro ∧ bindR (some ro) (fun r st => some (Rz.val (r.1.getD 0) st)) = some o := by
          rcases hend with ⟨e, s, h1, h2⟩ | ⟨s, ro, h1, h2, h3⟩
          · cases h1
          · cases h1; exact ⟨ro, h2, h3⟩
        rw [hfr, hfb, hfw, ← hgl', Nat.add_sub_cancel_left] at hL
        have hB := jbody_con ih hj j g hg vs s1 vok _ wk ro hR1 hOw huv (by omega) (by omega) hL
        refine awp_skip ?_; try simp only [RR]
        refine awp_seq_k fun K hK => ?_
        refine awp_region rfl ?_
        simp only [f0, f10, f11, hr, hx, nxr, nrx, List.length_map, RR, seval]
        refine awpC_run hB (fun _ => trivial) fun ae H2 ⟨w, vo2, g1, g2, g3, g4, g5, g6⟩ => ?_
        subst g1
        have hfin : (∀ v s, o = .val v s → w = v) ∧ (∀ e s, o = .fin e s → e ≠ 0) ∧ enR o = enR ro ∧ o.st = ro.st := by
          cases ro with
          | fin e s =>
            obtain rfl := Option.some.inj (show some (Rz.fin e s) = some o from hro)
            exact ⟨(fun _ _ e => by cases e), (fun e' s' h => by cases h; exact g4 _ _ rfl), rfl, rfl⟩
          | val q s =>
            obtain rfl := Option.some.inj (show some (Rz.val (q.1.getD 0) s) = some o from hro)
            exact ⟨(fun v s' h => by cases h; exact g3 _ _ rfl), (fun _ _ e => by cases e), rfl, rfl⟩
        obtain ⟨q1, q2, q3, q4⟩ := hfin
        rw [← q3, ← q4] at g5
        simp only [RR, seval]
        refine hK _ _ ?_; clear hK K
        refine awp_ret ?_; simp only [bodyQ, aresult, ares, f8, List.length_map, RR, seval]
        refine Gives.run ⟨w, vo2, rfl, g2, q1, q2, g5, fun b o hb h1 h2 h3 h4 => ?_⟩
        obtain ⟨p1, p2, p3⟩ := hkk b o (by rw [hHX]; exact hb) h1 h2 h3 h4
        exact g6 b o p1 h1 h2 h3 p2 h1 p3
    · have he0 : ¬ enk = 0 := by simpa using hc7
      obtain ⟨tt, htt⟩ : ∃ tt : Rz Unit, tt = .fin enk stk := ⟨_, rfl⟩
      have hend : (∃ e s, tt = .fin e s ∧ o = .fin e s) ∨ ∃ s ro, tt = .val () s ∧ evL cx n f.res (vs ++ List.replicate (f.words - l.length) 0) f.body s = some ro ∧ bindR (some ro) (fun r st => some (Rz.val (r.1.getD 0) st)) = some o := by
        rcases hcase with ⟨h, _⟩ | ⟨_, h⟩
        · exact absurd h he0
        · exact .inl ⟨enk, stk, htt, h⟩
      have hne1 : ∀ e s, tt = .fin e s → e ≠ 0 := fun e s h => by rw [htt] at h; cases h; exact he0
      have hR1 : RunJ p cx r vv abs tt.st vok (enR tt) M2 := by rw [htt]; exact hRk
      have hr := hR1.r
      refine awp_skip ?_; try simp only [RR]
      refine awp_seq ?_
      refine awp_seq_k fun K hK => ?_
      refine awp_region rfl ?_
      simp only [f0, hr, hx, nxr, nrx, List.length_map, RR, seval]
      refine hK _ _ ?_; clear hK K
      refine awp_if _ rfl (fun hc9 => ?_) (fun hc9 => ?_)
      · obtain ⟨e1, s1, rfl⟩ := enR_fin (o := tt) (by simpa using hc9)
        obtain ho : o = .fin e1 s1 := by
          rcases hend with ⟨e, s, h1, h2⟩ | ⟨_, _, h1, _⟩
          · cases h1; exact h2
          · cases h1
        subst ho
        refine awp_seq_k fun K hK => ?_
        refine awp_region rfl ?_
        simp only [List.length_map, RR, seval]
        refine hK _ _ ?_; clear hK K
        refine awp_ret ?_; simp only [bodyQ, aresult, ares, f8, List.length_map, RR, seval]
        exact Gives.run ⟨0, vok, rfl, by simp [u32R], (fun _ _ e => by cases e), (fun e s h => by cases h; exact hne1 _ _ rfl), hR1, fun b o hb h1 h2 h3 h4 => by obtain ⟨q1, q2, _⟩ := hkk b o (by rw [hHX]; exact hb) h1 h2 h3 h4; exact ⟨q1, q2⟩⟩
      · obtain ⟨_, s1, rfl⟩ := enR_val (o := tt) hne1 (by simpa using hc9)
        obtain ⟨ro, hL, hro⟩ : ∃ ro, evL cx n f.res (vs ++ List.replicate (f.words - l.length) 0) f.body s1 = some ro ∧ bindR (some ro) (fun r st => some (Rz.val (r.1.getD 0) st)) = some o := by
          rcases hend with ⟨e, s, h1, h2⟩ | ⟨s, ro, h1, h2, h3⟩
          · cases h1
          · cases h1; exact ⟨ro, h2, h3⟩
        rw [hfr, hfb, hfw, ← hgl', Nat.add_sub_cancel_left] at hL
        have hB := jbody_con ih hj j g hg vs s1 vok _ wk ro hR1 hOw huv (by omega) (by omega) hL
        refine awp_skip ?_; try simp only [RR]
        refine awp_seq_k fun K hK => ?_
        refine awp_region rfl ?_
        simp only [f0, f10, f11, hr, hx, nxr, nrx, List.length_map, RR, seval]
        refine awpC_run hB (fun _ => trivial) fun ae H2 ⟨w, vo2, g1, g2, g3, g4, g5, g6⟩ => ?_
        subst g1
        have hfin : (∀ v s, o = .val v s → w = v) ∧ (∀ e s, o = .fin e s → e ≠ 0) ∧ enR o = enR ro ∧ o.st = ro.st := by
          cases ro with
          | fin e s =>
            obtain rfl := Option.some.inj (show some (Rz.fin e s) = some o from hro)
            exact ⟨(fun _ _ e => by cases e), (fun e' s' h => by cases h; exact g4 _ _ rfl), rfl, rfl⟩
          | val q s =>
            obtain rfl := Option.some.inj (show some (Rz.val (q.1.getD 0) s) = some o from hro)
            exact ⟨(fun v s' h => by cases h; exact g3 _ _ rfl), (fun _ _ e => by cases e), rfl, rfl⟩
        obtain ⟨q1, q2, q3, q4⟩ := hfin
        rw [← q3, ← q4] at g5
        simp only [RR, seval]
        refine hK _ _ ?_; clear hK K
        refine awp_ret ?_; simp only [bodyQ, aresult, ares, f8, List.length_map, RR, seval]
        refine Gives.run ⟨w, vo2, rfl, g2, q1, q2, g5, fun b o hb h1 h2 h3 h4 => ?_⟩
        obtain ⟨p1, p2, p3⟩ := hkk b o (by rw [hHX]; exact hb) h1 h2 h3 h4
        exact g6 b o p1 h1 h2 h3 p2 h1 p3
end
end Go.Proofs.Ytlokndnkpleegaa

namespace Go.Proofs.Ytlokndnkpleegaa
open Go.Al
section
variable {p : Pg} {cx : Cx} {r : Nat} {vv : AV} {abs : List Nat} {n : Nat}
set_option maxHeartbeats 4000000 in
theorem jstmts_step {en : Int} (ih : en = 0 → PrgJ p cx r vv abs n) (i : Nat) (rs : Str → Bool × Int) (ow : List Int) (l : List Sm) (st : RS) (vo : AV) (H : Hp) (x : Nat) (wv : AV) (bk : Bool) (vl : Int) (o : Rz (Option Int × List Int)) (hl : okS l) (hU : ∀ u ∈ usesS l, UJ p i rs u) (hR : RunJ p cx r vv abs st vo en H) (hW : OwnW vv abs vo wv ow H) (hu : ∀ y ∈ ow, u32R y) (hx : H x = some (.rows 4 [[.int .i64 i, wv, .bool bk, .int .u32 vl]])) (uvl : u32R vl) (hbv : bk = false → vl = 0) (hb0 : en = 0 → bk = false) (h : contJ en st (evL cx (n + 1) rs ow l st) o) :
    Con env 49 [.ptr 11 r 0 0, .ptr 4 x 0 0, .isl 5 (l.map Sm.row)] H (postT p cx r vv abs vo x i wv ow.length H o) := by
  have hr := hR.r
  have hfit := hl.fit
  simp only [fitL] at hfit
  have nxr : x ≠ r := fun e => by rw [e, hr] at hx; cases hx
  have nrx : r ≠ x := fun e => nxr e.symm
  obtain ⟨HX, hHX⟩ : ∃ X, X = H := ⟨_, rfl⟩
  obtain ⟨w, hw⟩ : ∃ w, w = ow.length := ⟨_, rfl⟩
  rw [← hw]
  refine con_of 34 [] Try.func49 rfl rfl rfl rfl ?_
  refine awp_seq_k fun K hK => ?_
  refine awp_region rfl ?_
  simp only [List.length_map, RR, seval]
  refine hK _ _ ?_; clear hK K
  refine awp_name fun F1 M1 hfr hH => ?_
  have g0 := hfr 0
  have g1 := hfr 1
  have g2 := hfr 2
  have g6 := hfr 6
  have gr := hH r
  have gx := hH x
  try simp only [hr, hx, nxr, nrx, List.length_map, RR, seval] at g0 g1 g2 g6 gr gx
  have hM := funext hH
  have f0 := g0; clear g0
  have f1 := g1; clear g1
  have f2 := g2; clear g2
  have f6 := g6; clear g6
  have hr := gr; clear gr
  have hx := gx; clear gx
  clear hfr hH
  refine awp_block ?_
  refine awp_while [0, 1, 2] (l.length) (fun m fr M => ∃ k stk vok enk owk bkk vlk, m + k = l.length ∧ fr 6 = .int .i64 (k : Nat) ∧ owk.length = w ∧ (∀ y ∈ owk, u32R y) ∧ u32R vlk ∧ (bkk = false → vlk = 0) ∧ RunJ p cx r vv abs stk vok enk M ∧ OwnW vv abs vok wv owk M ∧ M x = some (.rows 4 [[.int .i64 i, wv, .bool bkk, .int .u32 vlk]]) ∧ keepsW r vv abs vo vok x wv HX M ∧ (¬ en = 0 → ¬ enk = 0) ∧ ((enk = 0 ∧ bkk = false ∧ ∃ mm, mm ≤ n + 1 ∧ evL cx mm rs owk (l.drop k) stk = some o) ∨ (enk = 0 ∧ bkk = true ∧ o = .val (some vlk, owk) stk) ∨ (enk ≠ 0 ∧ o = .fin enk stk))) ⟨0, st, vo, en, ow, bk, vl, rfl, f6, hw.symm, hu, uvl, hbv, (by rw [hM]; exact hR), (by rw [hM]; exact hW), hx, (by rw [hM, hHX]; exact (keepsJ.refl _ _ _ _ _).w _ _), (fun h => h), (by rcases h with ⟨h1, h2⟩ | ⟨h1, h2⟩; exact .inl ⟨h1, hb0 h1, n + 1, Nat.le_refl _, h2⟩; exact .inr (.inr ⟨h1, h2⟩))⟩ ?_
  rintro m F2 M2 ⟨k, stk, vok, enk, owk, bkk, vlk, hmk, f6, hwk, huk, uvl, hbv, hRk, hOk, hx, hkk, hen0, hcase⟩ agx K0 hK0
  have f0 := (agx 0 rfl).trans f0
  have f1 := (agx 1 rfl).trans f1
  have f2 := (agx 2 rfl).trans f2
  have ag0 := agree.refl [0, 1, 2] F2
  clear agx
  have hr := hRk.r
  clear h hb0
  have hen : enk = 0 ∨ ¬ enk = 0 := by by_cases h : enk = 0; exact .inl h; exact .inr h
  have hzk : (k : Int) < (l.length : Int) ∨ ¬ (k : Int) < (l.length : Int) := by omega
  rcases hen with hen | hen <;> rcases hzk with zk | zk <;> rcases Bool.eq_false_or_eq_true bkk with hbk | hbk
  all_goals
    refine awp_seq ?_
    refine awp_seq_k fun K hK => ?_
    refine awp_region rfl ?_
    simp only [f0, f1, f2, f6, hr, hx, nxr, nrx, List.length_map, hen, zk, hbk, RR, seval]
    repeat' ((first | refine awpG_splitN (fun h => ?_) (fun h => ?_) | refine awpG_split (fun h => ?_) (fun h => ?_)) <;> simp only [h, f0, f1, f2, f6, hr, hx, nxr, nrx, List.length_map, hen, zk, hbk, RR, seval])
    all_goals
      refine hK _ _ ?_; clear hK K
      refine awp_if _ rfl (fun hc => ?_) (fun hc => ?_)
      · try (cases hc; done)
        all_goals
          have hw0 := hc; clear hc
          have hlt : k < l.length := by omega
          have hen0 : en = 0 := by
            by_cases he : en = 0
            · exact he
            · exact absurd hen (hen0 he)
          have ih := ih hen0
          have hLk : ∃ mm, mm ≤ n + 1 ∧ evL cx mm rs owk (l.drop k) stk = some o := by
            rcases hcase with ⟨_, _, h⟩ | ⟨_, h, _⟩ | ⟨h, _⟩
            · exact h
            · rw [hbk] at h; cases h
            · exact absurd hen h
          clear hcase
          have hx0 := hx
          obtain ⟨mm, hmn, hLk⟩ := hLk
          rw [hbk, hbv hbk] at hx0
          have hRk0 := hRk
          rw [hen] at hRk0
          have hg0 := List.getElem?_eq_getElem hlt
          have hdk : l.drop k = l[k] :: l.drop (k + 1) := List.drop_eq_getElem_cons hlt
          generalize l[k] = a at hg0 hdk
          have hgs := getS hg0
          rw [hdk] at hLk
          obtain ⟨m', rfl⟩ : ∃ m', mm = m' + 1 := by
            cases mm with
            | zero => simp [evL] at hLk
            | succ m' => exact ⟨m', rfl⟩
          simp only [evL] at hLk
          obtain ⟨r1, h1⟩ : ∃ r1, evS cx m' rs owk a stk = some r1 := by
            cases h1 : evS cx m' rs owk a stk with
            | none => rw [h1] at hLk; cases hLk
            | some r1 => exact ⟨r1, rfl⟩
          rw [h1] at hLk
          have ham := List.mem_of_getElem? hg0
          have hus := usesS_mem ham
          have hS := ih.S i rs owk a stk vok _ x wv r1 (hl.all _ ham) (fun u hu => hU u (hus.1 u hu)) (fun u hu => hU u (hus.2.1 u hu)) (fun u hu => hU u (hus.2.2.1 u hu)) (fun u hu => hU u (hus.2.2.2 u hu)) hRk0 hOk huk hx0 (evS_deep (by omega) h1)
          rw [hwk, a.row_eq] at hS
          refine awp_skip ?_; try simp only [RR]
          refine awp_seq ?_
          refine awp_block ?_
          refine awp_region rfl ?_
          simp only [f0, f1, f2, f6, hr, hx, nxr, nrx, List.length_map, hen, zk, hbk, hgs, RR, seval]
          refine awpC_T hS (fun _ => trivial) fun ow1 bk1 vl1 vo1 H1 g1 g2 g3 g4 g5 g6 g7 g8 g9 g10 => ?_
          have hkk1 := hkk.trans g10
          have hcase1 : (enR r1 = 0 ∧ bk1 = false ∧ ∃ mm, mm ≤ n + 1 ∧ evL cx mm rs ow1 (l.drop (k + 1)) r1.st = some o) ∨ (enR r1 = 0 ∧ bk1 = true ∧ o = .val (some vl1, ow1) r1.st) ∨ (enR r1 ≠ 0 ∧ o = .fin (enR r1) r1.st) := by
            cases r1 with
            | fin e s => exact .inr (.inr ⟨g6 _ _ rfl, (Option.some.inj (show some (Rz.fin e s) = some o from hLk)).symm⟩)
            | val q s =>
              obtain ⟨q1, q2⟩ := q
              obtain ⟨h1, h2, h3⟩ := g5 _ _ rfl
              simp only at h1 h2 h3
              subst h1
              cases q1 with
              | none => exact .inl ⟨rfl, h2, m', by omega, hLk⟩
              | some v =>
                simp only [Option.getD_some] at h3
                subst h3
                exact .inr (.inl ⟨rfl, h2, (Option.some.inj hLk).symm⟩)
          have ek : IntKind.wrap .i64 ((k : Int) + 1) = ((k + 1 : Nat) : Int) := by rw [IntWalk.i64_in _ (by omega)]; omega
          simp only [RR, seval]
          refine awp_region rfl ?_
          simp only [f6, List.length_map, hen, zk, hbk, hgs, ek, RR, seval]
          refine hK0 (m - 1) _ _ (by omega) ⟨k + 1, r1.st, vo1, enR r1, ow1, bk1, vl1, (by omega), rfl, g1, g2, g3, g4, g9, g8, g7, hkk1, (fun h => absurd hen0 h), hcase1⟩ (by repeat (first | exact ag0 | refine agree.upd rfl ?_))
      · try (cases hc; done)
        all_goals
          have hw0 := hc; clear hc
          have hfin : (∀ q s, o = .val q s → owk = q.2 ∧ bkk = q.1.isSome ∧ vlk = q.1.getD 0) ∧ (∀ e s, o = .fin e s → e ≠ 0) ∧ o.st = stk ∧ enR o = enk := by
            rcases hcase with ⟨h1, h2, mm, h3, h4⟩ | ⟨h1, h2, h3⟩ | ⟨h1, h2⟩
            · obtain hkl : k = l.length := by first | omega | (exfalso; exact hen h1) | (exfalso; rw [hbk] at h2; cases h2)
              rw [hkl, List.drop_length] at h4
              cases mm with
              | zero => simp [evL] at h4
              | succ m' =>
                simp only [evL, Option.some.injEq] at h4
                subst h4
                exact ⟨(fun q s e => by cases e; exact ⟨rfl, h2, hbv h2⟩), (fun _ _ e => by cases e), rfl, h1.symm⟩
            · subst h3
              exact ⟨(fun q s e => by cases e; exact ⟨rfl, h2, rfl⟩), (fun _ _ e => by cases e), rfl, h1.symm⟩
            · subst h2
              exact ⟨(fun _ _ e => by cases e), (fun _ _ e => by cases e; exact h1), rfl, rfl⟩
          obtain ⟨e1, e2, e3, e4⟩ := hfin
          rw [← e3, ← e4] at hRk
          rw [hHX] at hkk
          refine awp_exit ?_; simp only [RR, seval]
          try simp only [bodyQ, aresult, ares, f0, f1, f2, f6, hr, hx, nxr, nrx, List.length_map, hen, zk, hbk, RR, seval]
          exact Gives.run ⟨owk, bkk, vlk, vok, rfl, hwk, huk, uvl, hbv, e1, e2, hx, hOk, hRk, hkk⟩
end
end Go.Proofs.Ytlokndnkpleegaa

namespace Go.Al
section
variable {p : Pg} {cx : Cx} {r x : Nat} {vv vo vo' wv : AV} {abs : List Nat} {st : RS} {en : Int} {ow : List Int} {H H' : Hp}
theorem OwnW.set {b n : Nat} (h : OwnW vv abs vo (.osl 1 b n) ow H) (i : Nat) (v : Int) : OwnW vv abs vo (.osl 1 b n) (ow.set i v) (upd H b (some (.rows 1 ((ow.map rowU).set i [.int .u32 v])))) := by
  refine ⟨?_, h.nv, h.na, h.nf⟩
  rcases h.h with ⟨e, _⟩ | ⟨b', e, hb⟩
  · cases e
  · simp only [AV.osl.injEq, true_and] at e
    obtain ⟨rfl, rfl⟩ := e
    exact .inr ⟨b, by simp, by rw [upd_same, map_set_U]⟩
theorem keepsW.words {s b n : Nat} (h : keepsW r vv abs vo vo' x (.osl s b n) H H') (o : Option AObj) : keepsW r vv abs vo vo' x (.osl s b n) H (upd H' b o) := fun b' o' hb h1 h2 h3 h4 h5 h6 => by
  obtain ⟨g1, g2⟩ := h b' o' hb h1 h2 h3 h4 h5 h6
  exact ⟨by rw [upd_ne _ _ (fun e => h6 _ _ (by rw [e]))]; exact g1, g2⟩
theorem keepsW.frame (h : keepsW r vv abs vo vo' x wv H H') (o : Option AObj) : keepsW r vv abs vo vo' x wv H (upd H' x o) := fun b' o' hb h1 h2 h3 h4 h5 h6 => by
  obtain ⟨g1, g2⟩ := h b' o' hb h1 h2 h3 h4 h5 h6
  exact ⟨by rw [upd_ne _ _ h5]; exact g1, g2⟩
theorem OwnW.offv {s b n : Nat} (h : OwnW (.osl s b n) abs vo wv ow H) : Al.off wv b := fun s' n' e => h.nv _ _ _ e _ _ rfl
theorem OwnW.offa (h : OwnW vv abs vo wv ow H) {b : Nat} (hb : b ∈ abs) : Al.off wv b := fun _ _ e => h.na _ _ _ e hb
end
end Go.Al
namespace Go.Proofs.Ytlokndnkpleegaa
open Go.Al
section
variable {p : Pg} {cx : Cx} {r : Nat} {vv : AV} {abs : List Nat} {n : Nat}
set_option maxHeartbeats 4000000 in
theorem jset_step (ih : PrgJ p cx r vv abs n) (hj : JOk p cx) (i : Nat) (rs : Str → Bool × Int) (ow : List Int) (e : Sm) (hkd : e.kind = 1) (st : RS) (vo : AV) (H : Hp) (x : Nat) (wv : AV) (o : Rz (Option Int × List Int)) (he : e.ok) (hU : ∀ u ∈ useS e, UJ p i rs u) (hKE : ∀ u ∈ usesE e.es, UJ p i rs u) (hKT : ∀ u ∈ usesS e.thn, UJ p i rs u) (hKU : ∀ u ∈ usesS e.els, UJ p i rs u) (hR : RunJ p cx r vv abs st vo 0 H) (hW : OwnW vv abs vo wv ow H) (hu : ∀ y ∈ ow, u32R y) (hx : H x = some (.rows 4 [[.int .i64 i, wv, .bool false, .int .u32 0]])) (h : evS cx (n + 1) rs ow e st = some o) :
    Con env 70 [.ptr 11 r 0 0, .ptr 4 x 0 0, .agg e.row] H (postT p cx r vv abs vo x i wv ow.length H o) := by
  obtain ⟨k, s, l, t, u⟩ := e
  have hr := hR.r
  have hes := he.es
  have hth := he.thn
  have hel := he.els
  simp only [Sm.es, Sm.thn, Sm.els, Sm.kind] at hes hth hel hKE hKT hKU hkd
  have hrow : (Sm.mk k s l t u).row = [.int .i64 k, .str s, .isl 5 (l.map Ex.row), .isl 5 (t.map Sm.row), .isl 5 (u.map Sm.row)] := Sm.row_eq _
  rw [hrow]
  clear hrow
  have nxr : x ≠ r := fun e => by rw [e, hr] at hx; cases hx
  have nrx : r ≠ x := fun e => nxr e.symm
  simp only [evS] at h
  have hV := fun (j : Nat) (a : Ex) (hj : l[j]? = some a) st vo en H o h3 h4 h5 h6 => ih.V i rs ow a st vo en H x wv false 0 o (hes.all _ (List.mem_of_getElem? hj)) (fun u hu => hKE u ((usesE_mem (List.mem_of_getElem? hj)).1 u hu)) (fun u hu => hKE u ((usesE_mem (List.mem_of_getElem? hj)).2 u hu)) h3 h4 hu h5 h6
  have hpav : p.av = .agg [.isl 1 (p.vars.map strRow), .isl 2 (p.arrs.map Ar.row), .isl 5 (p.funs.map Fu.row)] := rfl
  obtain ⟨HX, hHX⟩ : ∃ X, X = H := ⟨_, rfl⟩
  subst hkd
  simp only [if_true] at h
  have hu1 := hU ⟨s, 1, 0⟩ (by simp [useS, Sm.kind, Sm.name])
  have hF := hu1.f
  rw [hpav] at hF
  simp only at hF
  have hk := hu1.k1
  generalize findF p i s = fi at hF hk
  obtain ⟨kk, ii⟩ := fi
  simp only at hF hk
  cases hl0 : l[0]? with
  | none => rw [hl0] at h; cases h
  | some a =>
    simp only [hl0] at h
    have hg0 := getE hl0
    obtain ⟨r1, h1⟩ : ∃ r1, evE cx n rs ow a st = some r1 := by
      cases h1 : evE cx n rs ow a st with
      | none => rw [h1] at h; cases h
      | some r1 => exact ⟨r1, rfl⟩
    rw [h1] at h
    have hVa := fun H' g1 g2 g3 => hV 0 a hl0 st vo 0 H' r1 g1 g2 g3 (.inl ⟨rfl, h1⟩)
    rw [a.row_eq] at hVa
    refine con_of 251 [] Try.func70 rfl rfl rfl rfl ?_
    refine awp_seq_k fun K hK => ?_
    refine awp_region rfl ?_
    simp only [hr, hx, nxr, nrx, hg0, RR, seval]
    refine awpN_intro fun b5 hn5 => ?_
    have nb5_r : b5 ≠ r := fun e => by rw [e] at hn5; simp only [hr, nxr, nrx, RR, seval, reduceCtorEq] at hn5
    have nr_b5 : r ≠ b5 := fun e => nb5_r e.symm
    have nb5_x : b5 ≠ x := fun e => by rw [e] at hn5; simp only [hx, nxr, nrx, RR, seval, reduceCtorEq] at hn5
    have nx_b5 : x ≠ b5 := fun e => nb5_x e.symm
    simp only [hr, hx, nxr, nrx, nb5_r, nr_b5, nb5_x, nx_b5, hg0, RR, seval]
    refine hK _ _ ?_; clear hK K
    refine awp_seq_k fun K hK => ?_
    refine awp_region rfl ?_
    simp only [hr, hx, nxr, nrx, nb5_r, nr_b5, nb5_x, nx_b5, hg0, RR, seval]
    refine hK _ _ ?_; clear hK K
    refine awp_block ?_
    refine awp_seq_k fun K hK => ?_
    refine awp_region rfl ?_
    simp only [hg0, RR, seval]
    refine hK _ _ ?_; clear hK K
    refine awp_if true rfl (fun _ => ?_) (fun hc => by cases hc)
    refine awp_name fun F1 M1 hfr hH => ?_
    have g0 := hfr 0
    have g1 := hfr 1
    have g5 := hfr 5
    have gr := hH r
    have gx := hH x
    have gb5 := hH b5
    try simp only [hr, hx, nxr, nrx, nb5_r, nr_b5, nb5_x, nx_b5, hg0, RR, seval] at g0 g1 g5 gr gx gb5
    have hM := funext hH
    have hR0 := (hR.new hn5 _).same hH
    have hW0 := (hW.new hn5 _).same hH
    have hk0 : keepsJ r vv abs vo vo H M1 := by rw [hM]; exact (keepsJ.refl _ _ _ _ _).updN hn5 _
    have f0 := g0; clear g0
    have f1 := g1; clear g1
    have f5 := g5; clear g5
    have hr := gr; clear gr
    have hx := gx; clear gx
    have hb5 := gb5; clear gb5
    clear hfr hH
    refine awp_seq_k fun K hK => ?_
    refine awp_region rfl ?_
    simp only [f0, f1, f5, hr, hx, hb5, nxr, nrx, nb5_r, nr_b5, nb5_x, nx_b5, hg0, RR, seval]
    refine awpC_J (hVa _ hR0 hW0 hx) (fun _ => trivial) fun w1 vo1 H1 uw1 hwv1 hne1 hR1 hk1 => ?_
    have hr := hR1.r
    have hx := hR0.keep hx (by decide) (by decide) hk1
    have hb5 := hR0.keep hb5 (by decide) (by decide) hk1
    have hW1 := hW0.keep hR0 hk1
    have hk01 := (hk0.trans hk1).w x wv
    simp only [RR, seval]
    refine hK _ _ ?_; clear hK K
    refine awp_seq ?_
    refine awp_seq_k fun K hK => ?_
    refine awp_region rfl ?_
    simp only [f0, hr, hx, hb5, nxr, nrx, nb5_r, nr_b5, nb5_x, nx_b5, hg0, RR, seval]
    refine hK _ _ ?_; clear hK K
    refine awp_if _ rfl (fun hc4 => ?_) (fun hc4 => ?_)
    · obtain ⟨e1, s1, rfl⟩ := enR_fin (o := r1) (by simpa using hc4)
      obtain rfl := Option.some.inj (show some (Rz.fin e1 s1) = some o from h)
      refine awp_ret ?_; simp only [bodyQ, aresult, ares, hg0, RR, seval]
      exact Gives.run ⟨ow, false, 0, vo1, rfl, rfl, hu, by simp [u32R], (fun _ => rfl), (fun _ _ e => by cases e), (fun e s h => by cases h; exact hne1 _ _ rfl), hx, hW1, hR1, hk01⟩
    · obtain ⟨x1, s1, rfl⟩ := enR_val (o := r1) hne1 (by simpa using hc4)
      obtain rfl := hwv1 _ _ rfl
      have h : (setR (rs s) w1 ow s1).map (fun p => Rz.val ((none : Option Int), p.1) p.2) = some o := h
      unfold setR at h
      by_cases z0 : 0 ≤ (rs s).2
      rotate_left
      · rw [if_neg z0] at h; cases h
      rw [if_pos z0] at h
      have hR1 : RunJ p cx r vv abs s1 vo1 0 H1 := hR1
      have hr := hR1.r
      refine awp_skip ?_; try simp only [RR]
      refine awp_seq_k fun K hK => ?_
      refine awp_region_draw2 (fun x => x ≠ r ∧ x ≠ x ∧ x ≠ b5) [(0, 3), (1, 3), (2, 3), (3, 1), (4, 3), (5, 3), (6, 3), (7, 1), (8, 3), (9, 1), (10, 1), (11, 3), (12, 3), (13, 3), (14, 3), (15, 3)] [] draws (by kernel_rfl) rfl rfl ?_
      simp only [emitF, markOf, EM, f0, f1, f5, hr, hx, hb5, nxr, nrx, nb5_r, nr_b5, nb5_x, nx_b5, hg0, RR, seval]
      refine awpC_pure' (hF) ?_
      simp only [emitF, markOf, EM, f0, f1, f5, hr, hx, hb5, nxr, nrx, nb5_r, nr_b5, nb5_x, nx_b5, hg0, RR, seval]
      refine hK _ _ ?_; clear hK K
      refine awp_seq_k fun K hK => ?_
      refine awp_region rfl ?_
      simp only [hg0, RR, seval]
      refine hK _ _ ?_; clear hK K
      have hcase : (kk = 1 ∧ 0 ≤ ii ∧ ∃ y, ow[ii.toNat]? = some y ∧ ii < (ow.length : Int) ∧ o = .val (none, ow.set ii.toNat w1) s1) ∨ (kk = 2 ∧ 0 ≤ ii ∧ ∃ y, s1.vars[ii.toNat]? = some y ∧ ii < (s1.vars.length : Int) ∧ o = .val (none, ow) { s1 with vars := s1.vars.set ii.toNat w1 }) := by
        rcases hk with ⟨h1, h2⟩ | ⟨h1, h2⟩
        · rw [h2] at h z0
          simp only [if_true] at h z0
          by_cases hl : ii.toNat < ow.length
          · rw [if_pos hl] at h
            exact .inl ⟨h1, z0, _, List.getElem?_eq_getElem hl, by omega, (Option.some.inj h).symm⟩
          · rw [if_neg hl] at h; cases h
        · rw [h2] at h z0
          simp only [Bool.false_eq_true, if_false] at h z0
          by_cases hl : ii.toNat < s1.vars.length
          · rw [if_pos hl] at h
            exact .inr ⟨h1, z0, _, List.getElem?_eq_getElem hl, by omega, (Option.some.inj h).symm⟩
          · rw [if_neg hl] at h; cases h
      refine awp_if _ rfl (fun hc6 => ?_) (fun hc6 => ?_)
      · rcases hcase with ⟨_, z0, y, hy, zl, rfl⟩ | ⟨hpl, _⟩
        rotate_left
        · rw [hpl] at hc6; cases hc6
        obtain ⟨bo, rfl, hbo⟩ := hW1.osl hy
        have nbo : bo ≠ r := hR1.nr hbo
        have nbx : bo ≠ x := fun e => by rw [e, hx] at hbo; cases hbo
        have nbo' : r ≠ bo := fun e => nbo e.symm
        have nbx' : x ≠ bo := fun e => nbx e.symm
        have hgy := rowU_get hy
        refine awp_region rfl ?_
        simp only [f1, hr, hx, hb5, hbo, nxr, nrx, nb5_r, nr_b5, nb5_x, nx_b5, nbo, nbx, nbo', nbx', hg0, z0, zl, hgy, RR, seval]
        have g1 := hR1.other nbo (hW1.nv _ _ _ rfl) (hW1.na _ _ _ rfl) (hW1.nf _ _ _ rfl) (some (.rows 1 ((ow.map rowU).set ii.toNat [.int .u32 w1])))
        have g2 := hW1.set ii.toNat w1
        have g3 := hk01.words (some (.rows 1 ((ow.map rowU).set ii.toNat [.int .u32 w1])))
        have g4 : (ow.set ii.toNat w1).length = ow.length := by simp
        have g5 : ∀ y ∈ ow.set ii.toNat w1, u32R y := fun y hy => by
          rcases List.mem_or_eq_of_mem_set hy with hy | rfl
          · exact hu y hy
          · exact uw1
        have hend : ∀ q s, Rz.val ((none : Option Int), ow.set ii.toNat w1) s1 = .val q s → ow.set ii.toNat w1 = q.2 ∧ false = q.1.isSome ∧ (0 : Int) = q.1.getD 0 := fun q s e => by cases e; exact ⟨rfl, rfl, rfl⟩
        have hxf := (upd_ne H1 (some (.rows 1 ((ow.map rowU).set ii.toNat [.int .u32 w1]))) nbx').trans hx
        try simp only [bodyQ, aresult, ares, f0, f1, f5, hr, hx, hb5, hbo, nxr, nrx, nb5_r, nr_b5, nb5_x, nx_b5, nbo, nbx, nbo', nbx', hg0, z0, zl, hgy, RR, seval]
        exact Gives.run ⟨_, false, 0, vo1, rfl, g4, g5, by simp [u32R], (fun _ => rfl), hend, (fun _ _ e => by cases e), hxf, g2, g1, g3⟩
      · rcases hcase with ⟨hpl, _⟩ | ⟨_, z0, y, hy, zl, rfl⟩
        · rw [hpl] at hc6; cases hc6
        obtain ⟨bv, rfl, hbv⟩ := hR1.osl hy
        have nbo : bv ≠ r := hR1.nr hbv
        have nbx : bv ≠ x := fun e => by rw [e, hx] at hbv; cases hbv
        have nbo' : r ≠ bv := fun e => nbo e.symm
        have nbx' : x ≠ bv := fun e => nbx e.symm
        have hgy := rowU_get hy
        refine awp_region rfl ?_
        simp only [f0, hr, hx, hb5, hbv, nxr, nrx, nb5_r, nr_b5, nb5_x, nx_b5, nbo, nbx, nbo', nbx', hg0, z0, zl, hgy, RR, seval]
        have g1 := RunJ.setV hR1 ii.toNat w1 uw1
        have g2 := hW1.off hW1.offv (some (.rows 1 ((s1.vars.map rowU).set ii.toNat [.int .u32 w1])))
        have g3 := hk01.trans ((keepsJ.vars (r := r) (abs := abs) (vo := vo1) (H := H1) rfl (some (.rows 1 ((s1.vars.map rowU).set ii.toNat [.int .u32 w1])))).w x wv)
        have g4 : ow.length = ow.length := rfl
        have g5 := hu
        have hend : ∀ q s, Rz.val ((none : Option Int), ow) { s1 with vars := s1.vars.set ii.toNat w1 } = .val q s → ow = q.2 ∧ false = q.1.isSome ∧ (0 : Int) = q.1.getD 0 := fun q s e => by cases e; exact ⟨rfl, rfl, rfl⟩
        have hxf := (upd_ne H1 (some (.rows 1 ((s1.vars.map rowU).set ii.toNat [.int .u32 w1]))) nbx').trans hx
        try simp only [bodyQ, aresult, ares, f0, f1, f5, hr, hx, hb5, hbv, nxr, nrx, nb5_r, nr_b5, nb5_x, nx_b5, nbo, nbx, nbo', nbx', hg0, z0, zl, hgy, RR, seval]
        exact Gives.run ⟨_, false, 0, vo1, rfl, g4, g5, by simp [u32R], (fun _ => rfl), hend, (fun _ _ e => by cases e), hxf, g2, g1, g3⟩
set_option maxHeartbeats 4000000 in
theorem jcallS_step (ih : PrgJ p cx r vv abs n) (hj : JOk p cx) (i : Nat) (rs : Str → Bool × Int) (ow : List Int) (e : Sm) (hkd : e.kind = 6) (st : RS) (vo : AV) (H : Hp) (x : Nat) (wv : AV) (o : Rz (Option Int × List Int)) (he : e.ok) (hU : ∀ u ∈ useS e, UJ p i rs u) (hKE : ∀ u ∈ usesE e.es, UJ p i rs u) (hKT : ∀ u ∈ usesS e.thn, UJ p i rs u) (hKU : ∀ u ∈ usesS e.els, UJ p i rs u) (hR : RunJ p cx r vv abs st vo 0 H) (hW : OwnW vv abs vo wv ow H) (hu : ∀ y ∈ ow, u32R y) (hx : H x = some (.rows 4 [[.int .i64 i, wv, .bool false, .int .u32 0]])) (h : evS cx (n + 1) rs ow e st = some o) :
    Con env 70 [.ptr 11 r 0 0, .ptr 4 x 0 0, .agg e.row] H (postT p cx r vv abs vo x i wv ow.length H o) := by
  obtain ⟨k, s, l, t, u⟩ := e
  have hr := hR.r
  have hes := he.es
  have hth := he.thn
  have hel := he.els
  simp only [Sm.es, Sm.thn, Sm.els, Sm.kind] at hes hth hel hKE hKT hKU hkd
  have hrow : (Sm.mk k s l t u).row = [.int .i64 k, .str s, .isl 5 (l.map Ex.row), .isl 5 (t.map Sm.row), .isl 5 (u.map Sm.row)] := Sm.row_eq _
  rw [hrow]
  clear hrow
  have nxr : x ≠ r := fun e => by rw [e, hr] at hx; cases hx
  have nrx : r ≠ x := fun e => nxr e.symm
  simp only [evS] at h
  have hV := fun (j : Nat) (a : Ex) (hj : l[j]? = some a) st vo en H o h3 h4 h5 h6 => ih.V i rs ow a st vo en H x wv false 0 o (hes.all _ (List.mem_of_getElem? hj)) (fun u hu => hKE u ((usesE_mem (List.mem_of_getElem? hj)).1 u hu)) (fun u hu => hKE u ((usesE_mem (List.mem_of_getElem? hj)).2 u hu)) h3 h4 hu h5 h6
  have hpav : p.av = .agg [.isl 1 (p.vars.map strRow), .isl 2 (p.arrs.map Ar.row), .isl 5 (p.funs.map Fu.row)] := rfl
  obtain ⟨HX, hHX⟩ : ∃ X, X = H := ⟨_, rfl⟩
  subst hkd
  simp only [show ¬ (6 : Int) = 1 by decide, show ¬ (6 : Int) = 2 by decide, show ¬ (6 : Int) = 3 by decide, show ¬ (6 : Int) = 4 by decide, show ¬ (6 : Int) = 5 by decide, if_false, if_true] at h
  have hu1 := hU ⟨s, 4, l.length⟩ (by simp [useS, Sm.kind, Sm.name, Sm.es])
  obtain ⟨r1, h1⟩ : ∃ r1, evC cx n rs ow (rs s).2 l st = some r1 := by
    cases h1 : evC cx n rs ow (rs s).2 l st with
    | none => rw [h1] at h; cases h
    | some r1 => exact ⟨r1, rfl⟩
  rw [h1] at h
  have hC := fun H' g1 g2 g3 => ih.C i rs ow s l st vo H' x wv false 0 r1 hes hu1 hKE g1 g2 hu g3 h1
  refine con_of 251 [] Try.func70 rfl rfl rfl rfl ?_
  refine awp_seq_k fun K hK => ?_
  refine awp_region rfl ?_
  simp only [hr, hx, nxr, nrx, RR, seval]
  refine awpN_intro fun b5 hn5 => ?_
  have nb5_r : b5 ≠ r := fun e => by rw [e] at hn5; simp only [hr, nxr, nrx, RR, seval, reduceCtorEq] at hn5
  have nr_b5 : r ≠ b5 := fun e => nb5_r e.symm
  have nb5_x : b5 ≠ x := fun e => by rw [e] at hn5; simp only [hx, nxr, nrx, RR, seval, reduceCtorEq] at hn5
  have nx_b5 : x ≠ b5 := fun e => nb5_x e.symm
  simp only [hr, hx, nxr, nrx, nb5_r, nr_b5, nb5_x, nx_b5, RR, seval]
  refine hK _ _ ?_; clear hK K
  refine awp_seq_k fun K hK => ?_
  refine awp_region rfl ?_
  simp only [hr, hx, nxr, nrx, nb5_r, nr_b5, nb5_x, nx_b5, RR, seval]
  refine hK _ _ ?_; clear hK K
  refine awp_block ?_
  refine awp_seq_k fun K hK => ?_
  refine awp_region rfl ?_
  simp only [RR, seval]
  refine hK _ _ ?_; clear hK K
  refine awp_if false rfl (fun hc => by cases hc) (fun _ => ?_)
  refine awp_seq_k fun K hK => ?_
  refine awp_region rfl ?_
  simp only [RR, seval]
  refine hK _ _ ?_; clear hK K
  refine awp_if false rfl (fun hc => by cases hc) (fun _ => ?_)
  refine awp_seq_k fun K hK => ?_
  refine awp_region rfl ?_
  simp only [RR, seval]
  refine hK _ _ ?_; clear hK K
  refine awp_if false rfl (fun hc => by cases hc) (fun _ => ?_)
  refine awp_seq_k fun K hK => ?_
  refine awp_region rfl ?_
  simp only [RR, seval]
  refine hK _ _ ?_; clear hK K
  refine awp_if false rfl (fun hc => by cases hc) (fun _ => ?_)
  refine awp_seq_k fun K hK => ?_
  refine awp_region rfl ?_
  simp only [RR, seval]
  refine hK _ _ ?_; clear hK K
  refine awp_if false rfl (fun hc => by cases hc) (fun _ => ?_)
  refine awp_seq_k fun K hK => ?_
  refine awp_region rfl ?_
  simp only [RR, seval]
  refine hK _ _ ?_; clear hK K
  refine awp_if true rfl (fun _ => ?_) (fun hc => by cases hc)
  refine awp_name fun F1 M1 hfr hH => ?_
  have g0 := hfr 0
  have g1 := hfr 1
  have g5 := hfr 5
  have gr := hH r
  have gx := hH x
  have gb5 := hH b5
  try simp only [hr, hx, nxr, nrx, nb5_r, nr_b5, nb5_x, nx_b5, RR, seval] at g0 g1 g5 gr gx gb5
  have hM := funext hH
  have hR0 := (hR.new hn5 _).same hH
  have hW0 := (hW.new hn5 _).same hH
  have hk0 : keepsJ r vv abs vo vo H M1 := by rw [hM]; exact (keepsJ.refl _ _ _ _ _).updN hn5 _
  have f0 := g0; clear g0
  have f1 := g1; clear g1
  have f5 := g5; clear g5
  have hr := gr; clear gr
  have hx := gx; clear gx
  have hb5 := gb5; clear gb5
  clear hfr hH
  refine awp_region rfl ?_
  simp only [f0, f1, f5, hr, hx, hb5, nxr, nrx, nb5_r, nr_b5, nb5_x, nx_b5, RR, seval]
  refine awpC_J (hC _ hR0 hW0 hx) (fun _ => trivial) fun w1 vo1 H1 uw1 hwv1 hne1 hR1 hk1 => ?_
  have hx := hR0.keep hx (by decide) (by decide) hk1
  have hW1 := hW0.keep hR0 hk1
  have hk01 := (hk0.trans hk1).w x wv
  have hend : (∀ q s, o = .val q s → ow = q.2 ∧ false = q.1.isSome ∧ (0 : Int) = q.1.getD 0) ∧ (∀ e s, o = .fin e s → e ≠ 0) ∧ o.st = r1.st ∧ enR o = enR r1 := by
    cases r1 with
    | fin e s =>
      obtain rfl := Option.some.inj (show some (Rz.fin e s) = some o from h)
      exact ⟨(fun _ _ e => by cases e), (fun _ _ h => by cases h; exact hne1 _ _ rfl), rfl, rfl⟩
    | val y s =>
      obtain rfl := Option.some.inj (show some (Rz.val ((none : Option Int), ow) s) = some o from h)
      exact ⟨(fun _ _ e => by cases e; exact ⟨rfl, rfl, rfl⟩), (fun _ _ e => by cases e), rfl, rfl⟩
  obtain ⟨q1, q2, q3, q4⟩ := hend
  rw [← q3, ← q4] at hR1
  simp only [RR, seval]
  try simp only [bodyQ, aresult, ares, f0, f1, f5, hr, hx, hb5, nxr, nrx, nb5_r, nr_b5, nb5_x, nx_b5, RR, seval]
  exact Gives.run ⟨ow, false, 0, vo1, rfl, rfl, hu, by simp [u32R], (fun _ => rfl), q1, q2, hx, hW1, hR1, hk01⟩
set_option maxHeartbeats 4000000 in
theorem jskip_step (ih : PrgJ p cx r vv abs n) (hj : JOk p cx) (i : Nat) (rs : Str → Bool × Int) (ow : List Int) (e : Sm) (hkd : e.kind ≠ 1 ∧ e.kind ≠ 2 ∧ e.kind ≠ 3 ∧ e.kind ≠ 4 ∧ e.kind ≠ 5 ∧ e.kind ≠ 6 ∧ e.kind ≠ 7) (st : RS) (vo : AV) (H : Hp) (x : Nat) (wv : AV) (o : Rz (Option Int × List Int)) (he : e.ok) (hU : ∀ u ∈ useS e, UJ p i rs u) (hKE : ∀ u ∈ usesE e.es, UJ p i rs u) (hKT : ∀ u ∈ usesS e.thn, UJ p i rs u) (hKU : ∀ u ∈ usesS e.els, UJ p i rs u) (hR : RunJ p cx r vv abs st vo 0 H) (hW : OwnW vv abs vo wv ow H) (hu : ∀ y ∈ ow, u32R y) (hx : H x = some (.rows 4 [[.int .i64 i, wv, .bool false, .int .u32 0]])) (h : evS cx (n + 1) rs ow e st = some o) :
    Con env 70 [.ptr 11 r 0 0, .ptr 4 x 0 0, .agg e.row] H (postT p cx r vv abs vo x i wv ow.length H o) := by
  obtain ⟨k, s, l, t, u⟩ := e
  have hr := hR.r
  have hes := he.es
  have hth := he.thn
  have hel := he.els
  simp only [Sm.es, Sm.thn, Sm.els, Sm.kind] at hes hth hel hKE hKT hKU hkd
  have hrow : (Sm.mk k s l t u).row = [.int .i64 k, .str s, .isl 5 (l.map Ex.row), .isl 5 (t.map Sm.row), .isl 5 (u.map Sm.row)] := Sm.row_eq _
  rw [hrow]
  clear hrow
  have nxr : x ≠ r := fun e => by rw [e, hr] at hx; cases hx
  have nrx : r ≠ x := fun e => nxr e.symm
  simp only [evS] at h
  have hV := fun (j : Nat) (a : Ex) (hj : l[j]? = some a) st vo en H o h3 h4 h5 h6 => ih.V i rs ow a st vo en H x wv false 0 o (hes.all _ (List.mem_of_getElem? hj)) (fun u hu => hKE u ((usesE_mem (List.mem_of_getElem? hj)).1 u hu)) (fun u hu => hKE u ((usesE_mem (List.mem_of_getElem? hj)).2 u hu)) h3 h4 hu h5 h6
  have hpav : p.av = .agg [.isl 1 (p.vars.map strRow), .isl 2 (p.arrs.map Ar.row), .isl 5 (p.funs.map Fu.row)] := rfl
  obtain ⟨HX, hHX⟩ : ∃ X, X = H := ⟨_, rfl⟩
  obtain ⟨k1, k2, k3, k4, k5, k6, k7⟩ := hkd
  rw [if_neg k1, if_neg k2, if_neg k3, if_neg k4, if_neg k5, if_neg k6, if_neg k7] at h
  cases h
  have k1 : ¬ k = 1 := k1
  have k2 : ¬ k = 2 := k2
  have k3 : ¬ k = 3 := k3
  have k4 : ¬ k = 4 := k4
  have k5 : ¬ k = 5 := k5
  have k6 : ¬ k = 6 := k6
  have k7 : ¬ k = 7 := k7
  refine con_of 251 [] Try.func70 rfl rfl rfl rfl ?_
  refine awp_seq_k fun K hK => ?_
  refine awp_region rfl ?_
  simp only [hr, hx, nxr, nrx, k1, k2, k3, k4, k5, k6, k7, RR, seval]
  refine awpN_intro fun b5 hn5 => ?_
  have nb5_r : b5 ≠ r := fun e => by rw [e] at hn5; simp only [hr, nxr, nrx, RR, seval, reduceCtorEq] at hn5
  have nr_b5 : r ≠ b5 := fun e => nb5_r e.symm
  have nb5_x : b5 ≠ x := fun e => by rw [e] at hn5; simp only [hx, nxr, nrx, RR, seval, reduceCtorEq] at hn5
  have nx_b5 : x ≠ b5 := fun e => nb5_x e.symm
  simp only [hr, hx, nxr, nrx, nb5_r, nr_b5, nb5_x, nx_b5, k1, k2, k3, k4, k5, k6, k7, RR, seval]
  refine hK _ _ ?_; clear hK K
  refine awp_seq_k fun K hK => ?_
  refine awp_region rfl ?_
  simp only [hr, hx, nxr, nrx, nb5_r, nr_b5, nb5_x, nx_b5, k1, k2, k3, k4, k5, k6, k7, RR, seval]
  refine hK _ _ ?_; clear hK K
  refine awp_block ?_
  refine awp_seq_k fun K hK => ?_
  refine awp_region rfl ?_
  simp only [k1, k2, k3, k4, k5, k6, k7, RR, seval]
  refine hK _ _ ?_; clear hK K
  refine awp_if false rfl (fun hc => by cases hc) (fun _ => ?_)
  refine awp_seq_k fun K hK => ?_
  refine awp_region rfl ?_
  simp only [k1, k2, k3, k4, k5, k6, k7, RR, seval]
  refine hK _ _ ?_; clear hK K
  refine awp_if false rfl (fun hc => by cases hc) (fun _ => ?_)
  refine awp_seq_k fun K hK => ?_
  refine awp_region rfl ?_
  simp only [k1, k2, k3, k4, k5, k6, k7, RR, seval]
  refine hK _ _ ?_; clear hK K
  refine awp_if false rfl (fun hc => by cases hc) (fun _ => ?_)
  refine awp_seq_k fun K hK => ?_
  refine awp_region rfl ?_
  simp only [k1, k2, k3, k4, k5, k6, k7, RR, seval]
  refine hK _ _ ?_; clear hK K
  refine awp_if false rfl (fun hc => by cases hc) (fun _ => ?_)
  refine awp_seq_k fun K hK => ?_
  refine awp_region rfl ?_
  simp only [k1, k2, k3, k4, k5, k6, k7, RR, seval]
  refine hK _ _ ?_; clear hK K
  refine awp_if false rfl (fun hc => by cases hc) (fun _ => ?_)
  refine awp_seq_k fun K hK => ?_
  refine awp_region rfl ?_
  simp only [k1, k2, k3, k4, k5, k6, k7, RR, seval]
  refine hK _ _ ?_; clear hK K
  refine awp_if false rfl (fun hc => by cases hc) (fun _ => ?_)
  refine awp_seq_k fun K hK => ?_
  refine awp_region rfl ?_
  simp only [k1, k2, k3, k4, k5, k6, k7, RR, seval]
  refine hK _ _ ?_; clear hK K
  refine awp_if false rfl (fun hc => by cases hc) (fun _ => ?_)
  refine awp_skip ?_; try simp only [RR]
  try simp only [bodyQ, aresult, ares, hr, hx, nxr, nrx, nb5_r, nr_b5, nb5_x, nx_b5, k1, k2, k3, k4, k5, k6, k7, RR, seval]
  have hxf := (upd_ne H (some (.rows 5 [[.int .i64 k, .str s, .isl 5 (l.map Ex.row), .isl 5 (t.map Sm.row), .isl 5 (u.map Sm.row)]])) (show x ≠ b5 from fun e => by rw [e, hn5] at hx; cases hx)).trans hx
  exact Gives.run ⟨ow, false, 0, vo, rfl, rfl, hu, by simp [u32R], (fun _ => rfl), (fun _ _ e => by cases e; exact ⟨rfl, rfl, rfl⟩), (fun _ _ e => by cases e), hxf, hW.new hn5 _, hR.new hn5 _, ((keepsJ.refl _ _ _ _ _).updN hn5 _).w x wv⟩
set_option maxHeartbeats 4000000 in
theorem jret_step (ih : PrgJ p cx r vv abs n) (hj : JOk p cx) (i : Nat) (rs : Str → Bool × Int) (ow : List Int) (e : Sm) (hkd : e.kind = 7) (st : RS) (vo : AV) (H : Hp) (x : Nat) (wv : AV) (o : Rz (Option Int × List Int)) (he : e.ok) (hU : ∀ u ∈ useS e, UJ p i rs u) (hKE : ∀ u ∈ usesE e.es, UJ p i rs u) (hKT : ∀ u ∈ usesS e.thn, UJ p i rs u) (hKU : ∀ u ∈ usesS e.els, UJ p i rs u) (hR : RunJ p cx r vv abs st vo 0 H) (hW : OwnW vv abs vo wv ow H) (hu : ∀ y ∈ ow, u32R y) (hx : H x = some (.rows 4 [[.int .i64 i, wv, .bool false, .int .u32 0]])) (h : evS cx (n + 1) rs ow e st = some o) :
    Con env 70 [.ptr 11 r 0 0, .ptr 4 x 0 0, .agg e.row] H (postT p cx r vv abs vo x i wv ow.length H o) := by
  obtain ⟨k, s, l, t, u⟩ := e
  have hr := hR.r
  have hes := he.es
  have hth := he.thn
  have hel := he.els
  simp only [Sm.es, Sm.thn, Sm.els, Sm.kind] at hes hth hel hKE hKT hKU hkd
  have hrow : (Sm.mk k s l t u).row = [.int .i64 k, .str s, .isl 5 (l.map Ex.row), .isl 5 (t.map Sm.row), .isl 5 (u.map Sm.row)] := Sm.row_eq _
  rw [hrow]
  clear hrow
  have nxr : x ≠ r := fun e => by rw [e, hr] at hx; cases hx
  have nrx : r ≠ x := fun e => nxr e.symm
  simp only [evS] at h
  have hV := fun (j : Nat) (a : Ex) (hj : l[j]? = some a) st vo en H o h3 h4 h5 h6 => ih.V i rs ow a st vo en H x wv false 0 o (hes.all _ (List.mem_of_getElem? hj)) (fun u hu => hKE u ((usesE_mem (List.mem_of_getElem? hj)).1 u hu)) (fun u hu => hKE u ((usesE_mem (List.mem_of_getElem? hj)).2 u hu)) h3 h4 hu h5 h6
  have hpav : p.av = .agg [.isl 1 (p.vars.map strRow), .isl 2 (p.arrs.map Ar.row), .isl 5 (p.funs.map Fu.row)] := rfl
  obtain ⟨HX, hHX⟩ : ∃ X, X = H := ⟨_, rfl⟩
  subst hkd
  simp only [show ¬ (7 : Int) = 1 by decide, show ¬ (7 : Int) = 2 by decide, show ¬ (7 : Int) = 3 by decide, show ¬ (7 : Int) = 4 by decide, show ¬ (7 : Int) = 5 by decide, show ¬ (7 : Int) = 6 by decide, if_false, if_true] at h
  cases hl0 : l[0]? with
  | none =>
    rw [hl0] at h
    cases h
    have hle : l.length = 0 := by
      cases l with
      | nil => rfl
      | cons a l => simp at hl0
    have hle' : l = [] := List.eq_nil_of_length_eq_zero hle
    subst hle'
    refine con_of 251 [] Try.func70 rfl rfl rfl rfl ?_
    refine awp_seq_k fun K hK => ?_
    refine awp_region rfl ?_
    simp only [hr, hx, nxr, nrx, RR, seval]
    refine awpN_intro fun b5 hn5 => ?_
    have nb5_r : b5 ≠ r := fun e => by rw [e] at hn5; simp only [hr, nxr, nrx, RR, seval, reduceCtorEq] at hn5
    have nr_b5 : r ≠ b5 := fun e => nb5_r e.symm
    have nb5_x : b5 ≠ x := fun e => by rw [e] at hn5; simp only [hx, nxr, nrx, RR, seval, reduceCtorEq] at hn5
    have nx_b5 : x ≠ b5 := fun e => nb5_x e.symm
    simp only [hr, hx, nxr, nrx, nb5_r, nr_b5, nb5_x, nx_b5, RR, seval]
    refine hK _ _ ?_; clear hK K
    refine awp_seq_k fun K hK => ?_
    refine awp_region rfl ?_
    simp only [hr, hx, nxr, nrx, nb5_r, nr_b5, nb5_x, nx_b5, RR, seval]
    refine hK _ _ ?_; clear hK K
    refine awp_block ?_
    refine awp_seq_k fun K hK => ?_
    refine awp_region rfl ?_
    simp only [RR, seval]
    refine hK _ _ ?_; clear hK K
    refine awp_if false rfl (fun hc => by cases hc) (fun _ => ?_)
    refine awp_seq_k fun K hK => ?_
    refine awp_region rfl ?_
    simp only [RR, seval]
    refine hK _ _ ?_; clear hK K
    refine awp_if false rfl (fun hc => by cases hc) (fun _ => ?_)
    refine awp_seq_k fun K hK => ?_
    refine awp_region rfl ?_
    simp only [RR, seval]
    refine hK _ _ ?_; clear hK K
    refine awp_if false rfl (fun hc => by cases hc) (fun _ => ?_)
    refine awp_seq_k fun K hK => ?_
    refine awp_region rfl ?_
    simp only [RR, seval]
    refine hK _ _ ?_; clear hK K
    refine awp_if false rfl (fun hc => by cases hc) (fun _ => ?_)
    refine awp_seq_k fun K hK => ?_
    refine awp_region rfl ?_
    simp only [RR, seval]
    refine hK _ _ ?_; clear hK K
    refine awp_if false rfl (fun hc => by cases hc) (fun _ => ?_)
    refine awp_seq_k fun K hK => ?_
    refine awp_region rfl ?_
    simp only [RR, seval]
    refine hK _ _ ?_; clear hK K
    refine awp_if false rfl (fun hc => by cases hc) (fun _ => ?_)
    refine awp_seq_k fun K hK => ?_
    refine awp_region rfl ?_
    simp only [RR, seval]
    refine hK _ _ ?_; clear hK K
    refine awp_if true rfl (fun _ => ?_) (fun hc => by cases hc)
    refine awp_seq_k fun K hK => ?_
    refine awp_region rfl ?_
    simp only [RR, seval]
    refine hK _ _ ?_; clear hK K
    refine awp_seq ?_
    refine awp_seq_k fun K hK => ?_
    refine awp_region rfl ?_
    simp only [hr, hx, nxr, nrx, nb5_r, nr_b5, nb5_x, nx_b5, RR, seval]
    refine hK _ _ ?_; clear hK K
    refine awp_if false rfl (fun hc => by cases hc) (fun _ => ?_)
    refine awp_skip ?_; try simp only [RR]
    refine awp_region rfl ?_
    simp only [hr, hx, nxr, nrx, nb5_r, nr_b5, nb5_x, nx_b5, RR, seval]
    try simp only [bodyQ, aresult, ares, hr, hx, nxr, nrx, nb5_r, nr_b5, nb5_x, nx_b5, RR, seval]
    have nb : x ≠ b5 := fun e => by rw [e, hn5] at hx; cases hx
    have hR0 := hR.new hn5 (some (.rows 5 [[.int .i64 7, .str s, .isl 5 ([].map Ex.row), .isl 5 (t.map Sm.row), .isl 5 (u.map Sm.row)]]))
    have hW0 := hW.new hn5 (some (.rows 5 [[.int .i64 7, .str s, .isl 5 ([].map Ex.row), .isl 5 (t.map Sm.row), .isl 5 (u.map Sm.row)]]))
    have hx0 := (upd_ne H (some (.rows 5 [[.int .i64 7, .str s, .isl 5 ([].map Ex.row), .isl 5 (t.map Sm.row), .isl 5 (u.map Sm.row)]])) nb).trans hx
    obtain ⟨q1, q2, q3, q4⟩ := hR0.apart hx0 (by decide) (by decide)
    have hR1 := fun o1 o2 => (hR0.other q1 q2 q3 q4 o1).other q1 q2 q3 q4 o2
    have hW1 := fun o1 o2 => (hW0.off (hW0.h.offsz hx0 (by decide)) o1).off (hW0.h.offsz hx0 (by decide)) o2
    have hk1 := fun o1 o2 => ((((keepsJ.refl r vv abs vo H).updN hn5 (some (.rows 5 [[.int .i64 7, .str s, .isl 5 ([].map Ex.row), .isl 5 (t.map Sm.row), .isl 5 (u.map Sm.row)]]))).w x wv).frame o1).frame o2
    exact Gives.run ⟨ow, true, 0, vo, rfl, rfl, hu, by simp [u32R], (fun _ => rfl), (fun _ _ e => by cases e; exact ⟨rfl, rfl, rfl⟩), (fun _ _ e => by cases e), upd_same _ _ _, hW1 _ _, hR1 _ _, hk1 _ _⟩
  | some a =>
    simp only [hl0] at h
    have hg0 := getE hl0
    obtain ⟨r1, h1⟩ : ∃ r1, evE cx n rs ow a st = some r1 := by
      cases h1 : evE cx n rs ow a st with
      | none => rw [h1] at h; cases h
      | some r1 => exact ⟨r1, rfl⟩
    rw [h1] at h
    have hVa := fun H' g1 g2 g3 => hV 0 a hl0 st vo 0 H' r1 g1 g2 g3 (.inl ⟨rfl, h1⟩)
    rw [a.row_eq] at hVa
    have zl : (0 : Int) < (l.length : Int) := by have := (List.getElem?_eq_some_iff.1 hl0).1; omega
    refine con_of 251 [] Try.func70 rfl rfl rfl rfl ?_
    refine awp_seq_k fun K hK => ?_
    refine awp_region rfl ?_
    simp only [hr, hx, nxr, nrx, hg0, zl, List.length_map, RR, seval]
    refine awpN_intro fun b5 hn5 => ?_
    have nb5_r : b5 ≠ r := fun e => by rw [e] at hn5; simp only [hr, nxr, nrx, RR, seval, reduceCtorEq] at hn5
    have nr_b5 : r ≠ b5 := fun e => nb5_r e.symm
    have nb5_x : b5 ≠ x := fun e => by rw [e] at hn5; simp only [hx, nxr, nrx, RR, seval, reduceCtorEq] at hn5
    have nx_b5 : x ≠ b5 := fun e => nb5_x e.symm
    simp only [hr, hx, nxr, nrx, nb5_r, nr_b5, nb5_x, nx_b5, hg0, zl, List.length_map, RR, seval]
    refine hK _ _ ?_; clear hK K
    refine awp_seq_k fun K hK => ?_
    refine awp_region rfl ?_
    simp only [hr, hx, nxr, nrx, nb5_r, nr_b5, nb5_x, nx_b5, hg0, zl, List.length_map, RR, seval]
    refine hK _ _ ?_; clear hK K
    refine awp_block ?_
    refine awp_seq_k fun K hK => ?_
    refine awp_region rfl ?_
    simp only [hg0, zl, List.length_map, RR, seval]
    refine hK _ _ ?_; clear hK K
    refine awp_if false rfl (fun hc => by cases hc) (fun _ => ?_)
    refine awp_seq_k fun K hK => ?_
    refine awp_region rfl ?_
    simp only [hg0, zl, List.length_map, RR, seval]
    refine hK _ _ ?_; clear hK K
    refine awp_if false rfl (fun hc => by cases hc) (fun _ => ?_)
    refine awp_seq_k fun K hK => ?_
    refine awp_region rfl ?_
    simp only [hg0, zl, List.length_map, RR, seval]
    refine hK _ _ ?_; clear hK K
    refine awp_if false rfl (fun hc => by cases hc) (fun _ => ?_)
    refine awp_seq_k fun K hK => ?_
    refine awp_region rfl ?_
    simp only [hg0, zl, List.length_map, RR, seval]
    refine hK _ _ ?_; clear hK K
    refine awp_if false rfl (fun hc => by cases hc) (fun _ => ?_)
    refine awp_seq_k fun K hK => ?_
    refine awp_region rfl ?_
    simp only [hg0, zl, List.length_map, RR, seval]
    refine hK _ _ ?_; clear hK K
    refine awp_if false rfl (fun hc => by cases hc) (fun _ => ?_)
    refine awp_seq_k fun K hK => ?_
    refine awp_region rfl ?_
    simp only [hg0, zl, List.length_map, RR, seval]
    refine hK _ _ ?_; clear hK K
    refine awp_if false rfl (fun hc => by cases hc) (fun _ => ?_)
    refine awp_seq_k fun K hK => ?_
    refine awp_region rfl ?_
    simp only [hg0, zl, List.length_map, RR, seval]
    refine hK _ _ ?_; clear hK K
    refine awp_if true rfl (fun _ => ?_) (fun hc => by cases hc)
    refine awp_seq_k fun K hK => ?_
    refine awp_region rfl ?_
    simp only [hg0, zl, List.length_map, RR, seval]
    refine hK _ _ ?_; clear hK K
    refine awp_seq ?_
    refine awp_seq_k fun K hK => ?_
    refine awp_region rfl ?_
    simp only [hr, hx, nxr, nrx, nb5_r, nr_b5, nb5_x, nx_b5, hg0, zl, List.length_map, RR, seval]
    refine hK _ _ ?_; clear hK K
    refine awp_if true rfl (fun _ => ?_) (fun hc => by cases hc)
    refine awp_name fun F1 M1 hfr hH => ?_
    have g0 := hfr 0
    have g1 := hfr 1
    have g5 := hfr 5
    have g15 := hfr 15
    have gr := hH r
    have gx := hH x
    have gb5 := hH b5
    try simp only [hr, hx, nxr, nrx, nb5_r, nr_b5, nb5_x, nx_b5, hg0, zl, List.length_map, RR, seval] at g0 g1 g5 g15 gr gx gb5
    have hM := funext hH
    have hR0 := (hR.new hn5 _).same hH
    have hW0 := (hW.new hn5 _).same hH
    have hk0 : keepsJ r vv abs vo vo H M1 := by rw [hM]; exact (keepsJ.refl _ _ _ _ _).updN hn5 _
    have f0 := g0; clear g0
    have f1 := g1; clear g1
    have f5 := g5; clear g5
    have f15 := g15; clear g15
    have hr := gr; clear gr
    have hx := gx; clear gx
    have hb5 := gb5; clear gb5
    clear hfr hH
    refine awp_region rfl ?_
    simp only [f0, f1, f5, hr, hx, hb5, nxr, nrx, nb5_r, nr_b5, nb5_x, nx_b5, hg0, zl, List.length_map, RR, seval]
    refine awpC_J (hVa _ hR0 hW0 hx) (fun _ => trivial) fun w1 vo1 H1 uw1 hwv1 hne1 hR1 hk1 => ?_
    have hx := hR0.keep hx (by decide) (by decide) hk1
    have hW1 := hW0.keep hR0 hk1
    have hk01 := (hk0.trans hk1).w x wv
    have hend : (∀ q s, o = .val q s → ow = q.2 ∧ true = q.1.isSome ∧ w1 = q.1.getD 0) ∧ (∀ e s, o = .fin e s → e ≠ 0) ∧ o.st = r1.st ∧ enR o = enR r1 := by
      cases r1 with
      | fin e s =>
        obtain rfl := Option.some.inj (show some (Rz.fin e s) = some o from h)
        exact ⟨(fun _ _ e => by cases e), (fun _ _ h => by cases h; exact hne1 _ _ rfl), rfl, rfl⟩
      | val y s =>
        obtain rfl := hwv1 _ _ rfl
        obtain rfl := Option.some.inj (show some (Rz.val (some w1, ow) s) = some o from h)
        exact ⟨(fun _ _ e => by cases e; exact ⟨rfl, rfl, rfl⟩), (fun _ _ e => by cases e), rfl, rfl⟩
    obtain ⟨q1, q2, q3, q4⟩ := hend
    rw [← q3, ← q4] at hR1
    obtain ⟨p1, p2, p3, p4⟩ := hR1.apart hx (by decide) (by decide)
    simp only [RR, seval]
    refine awp_region rfl ?_
    simp only [f1, f15, hr, hx, hb5, nxr, nrx, nb5_r, nr_b5, nb5_x, nx_b5, hg0, zl, List.length_map, RR, seval]
    try simp only [bodyQ, aresult, ares, f0, f1, f5, f15, hr, hx, hb5, nxr, nrx, nb5_r, nr_b5, nb5_x, nx_b5, hg0, zl, List.length_map, RR, seval]
    have g1 := fun o1 o2 => (hR1.other p1 p2 p3 p4 o1).other p1 p2 p3 p4 o2
    have g2 := fun o1 o2 => (hW1.off (hW1.h.offsz hx (by decide)) o1).off (hW1.h.offsz hx (by decide)) o2
    have g3 := fun o1 o2 => (hk01.frame o1).frame o2
    exact Gives.run ⟨ow, true, w1, vo1, rfl, rfl, hu, uw1, (fun h => by cases h), q1, q2, upd_same _ _ _, g2 _ _, g1 _ _, g3 _ _⟩
end
end Go.Proofs.Ytlokndnkpleegaa

namespace Go.Proofs.Ytlokndnkpleegaa
open Go.Al
section
variable {p : Pg} {cx : Cx} {r : Nat} {vv : AV} {abs : List Nat} {n : Nat}
set_option maxHeartbeats 4000000 in
theorem jstore_step (ih : PrgJ p cx r vv abs n) (hj : JOk p cx) (i : Nat) (rs : Str → Bool × Int) (ow : List Int) (e : Sm) (hkd : e.kind = 2) (st : RS) (vo : AV) (H : Hp) (x : Nat) (wv : AV) (o : Rz (Option Int × List Int)) (he : e.ok) (hU : ∀ u ∈ useS e, UJ p i rs u) (hKE : ∀ u ∈ usesE e.es, UJ p i rs u) (hKT : ∀ u ∈ usesS e.thn, UJ p i rs u) (hKU : ∀ u ∈ usesS e.els, UJ p i rs u) (hR : RunJ p cx r vv abs st vo 0 H) (hW : OwnW vv abs vo wv ow H) (hu : ∀ y ∈ ow, u32R y) (hx : H x = some (.rows 4 [[.int .i64 i, wv, .bool false, .int .u32 0]])) (h : evS cx (n + 1) rs ow e st = some o) :
    Con env 70 [.ptr 11 r 0 0, .ptr 4 x 0 0, .agg e.row] H (postT p cx r vv abs vo x i wv ow.length H o) := by
  obtain ⟨k, s, l, t, u⟩ := e
  have hr := hR.r
  have hes := he.es
  have hth := he.thn
  have hel := he.els
  simp only [Sm.es, Sm.thn, Sm.els, Sm.kind] at hes hth hel hKE hKT hKU hkd
  have hrow : (Sm.mk k s l t u).row = [.int .i64 k, .str s, .isl 5 (l.map Ex.row), .isl 5 (t.map Sm.row), .isl 5 (u.map Sm.row)] := Sm.row_eq _
  rw [hrow]
  clear hrow
  have nxr : x ≠ r := fun e => by rw [e, hr] at hx; cases hx
  have nrx : r ≠ x := fun e => nxr e.symm
  simp only [evS] at h
  have hV := fun (j : Nat) (a : Ex) (hj : l[j]? = some a) st vo en H o h3 h4 h5 h6 => ih.V i rs ow a st vo en H x wv false 0 o (hes.all _ (List.mem_of_getElem? hj)) (fun u hu => hKE u ((usesE_mem (List.mem_of_getElem? hj)).1 u hu)) (fun u hu => hKE u ((usesE_mem (List.mem_of_getElem? hj)).2 u hu)) h3 h4 hu h5 h6
  have hpav : p.av = .agg [.isl 1 (p.vars.map strRow), .isl 2 (p.arrs.map Ar.row), .isl 5 (p.funs.map Fu.row)] := rfl
  obtain ⟨HX, hHX⟩ : ∃ X, X = H := ⟨_, rfl⟩
  subst hkd
  simp only [show ¬ (2 : Int) = 1 by decide, if_false, if_true] at h
  have hu1 := hU ⟨s, 3, 0⟩ (by simp [useS, Sm.kind, Sm.name])
  have hF := hu1.f
  rw [hpav] at hF
  simp only at hF
  have hk := hu1.k3
  generalize findF p i s = fi at hF hk
  obtain ⟨kk, ii⟩ := fi
  simp only at hF hk
  obtain ⟨rfl, hrs⟩ := hk
  rw [hrs] at h
  cases hl0 : l[0]? with
  | none => rw [hl0] at h; cases h
  | some a =>
  cases hl1 : l[1]? with
  | none => rw [hl0, hl1] at h; cases h
  | some b =>
    simp only [hl0, hl1] at h
    have hg0 := getE hl0
    have hg1 := getE hl1
    obtain ⟨r1, h1⟩ : ∃ r1, evE cx n rs ow a st = some r1 := by
      cases h1 : evE cx n rs ow a st with
      | none => rw [h1] at h; cases h
      | some r1 => exact ⟨r1, rfl⟩
    rw [h1] at h
    have hVa := fun H' g1 g2 g3 => hV 0 a hl0 st vo 0 H' r1 g1 g2 g3 (.inl ⟨rfl, h1⟩)
    rw [a.row_eq] at hVa
    have hVb := fun vo' en' st' H' r2 g1 g2 g3 g4 => hV 1 b hl1 st' vo' en' H' r2 g1 g2 g3 g4
    rw [b.row_eq] at hVb
    refine con_of 251 [] Try.func70 rfl rfl rfl rfl ?_
    refine awp_seq_k fun K hK => ?_
    refine awp_region rfl ?_
    simp only [hr, hx, nxr, nrx, hg0, hg1, RR, seval]
    refine awpN_intro fun b5 hn5 => ?_
    have nb5_r : b5 ≠ r := fun e => by rw [e] at hn5; simp only [hr, nxr, nrx, RR, seval, reduceCtorEq] at hn5
    have nr_b5 : r ≠ b5 := fun e => nb5_r e.symm
    have nb5_x : b5 ≠ x := fun e => by rw [e] at hn5; simp only [hx, nxr, nrx, RR, seval, reduceCtorEq] at hn5
    have nx_b5 : x ≠ b5 := fun e => nb5_x e.symm
    simp only [hr, hx, nxr, nrx, nb5_r, nr_b5, nb5_x, nx_b5, hg0, hg1, RR, seval]
    refine hK _ _ ?_; clear hK K
    refine awp_seq_k fun K hK => ?_
    refine awp_region rfl ?_
    simp only [hr, hx, nxr, nrx, nb5_r, nr_b5, nb5_x, nx_b5, hg0, hg1, RR, seval]
    refine hK _ _ ?_; clear hK K
    refine awp_block ?_
    refine awp_seq_k fun K hK => ?_
    refine awp_region rfl ?_
    simp only [hg0, hg1, RR, seval]
    refine hK _ _ ?_; clear hK K
    refine awp_if false rfl (fun hc => by cases hc) (fun _ => ?_)
    refine awp_seq_k fun K hK => ?_
    refine awp_region rfl ?_
    simp only [hg0, hg1, RR, seval]
    refine hK _ _ ?_; clear hK K
    refine awp_if true rfl (fun _ => ?_) (fun hc => by cases hc)
    refine awp_seq_k fun K hK => ?_
    refine awp_region_draw2 (fun x => x ≠ r ∧ x ≠ x ∧ x ≠ b5) [(0, 3), (1, 3), (2, 3), (3, 1), (4, 3), (5, 3), (6, 3), (7, 1), (8, 3), (9, 1), (10, 1), (11, 3), (12, 3), (13, 3), (14, 3), (15, 3)] [] draws (by kernel_rfl) rfl rfl ?_
    simp only [emitF, markOf, EM, hr, hx, nxr, nrx, nb5_r, nr_b5, nb5_x, nx_b5, hg0, hg1, RR, seval]
    refine awpC_pure' (hF) ?_
    simp only [emitF, markOf, EM, hr, hx, nxr, nrx, nb5_r, nr_b5, nb5_x, nx_b5, hg0, hg1, RR, seval]
    refine hK _ _ ?_; clear hK K
    refine awp_name fun F1 M1 hfr hH => ?_
    have g0 := hfr 0
    have g1 := hfr 1
    have g5 := hfr 5
    have g10 := hfr 10
    have gr := hH r
    have gx := hH x
    have gb5 := hH b5
    try simp only [hr, hx, nxr, nrx, nb5_r, nr_b5, nb5_x, nx_b5, hg0, hg1, RR, seval] at g0 g1 g5 g10 gr gx gb5
    have hM := funext hH
    have hR0 := (hR.new hn5 _).same hH
    have hW0 := (hW.new hn5 _).same hH
    have hk0 : keepsJ r vv abs vo vo H M1 := by rw [hM]; exact (keepsJ.refl _ _ _ _ _).updN hn5 _
    have f0 := g0; clear g0
    have f1 := g1; clear g1
    have f5 := g5; clear g5
    have f10 := g10; clear g10
    have hr := gr; clear gr
    have hx := gx; clear gx
    have hb5 := gb5; clear gb5
    clear hfr hH
    refine awp_seq_k fun K hK => ?_
    refine awp_region rfl ?_
    simp only [f0, f1, f5, hr, hx, hb5, nxr, nrx, nb5_r, nr_b5, nb5_x, nx_b5, hg0, hg1, RR, seval]
    refine awpC_J (hVa _ hR0 hW0 hx) (fun _ => trivial) fun w1 vo1 H1 uw1 hwv1 hne1 hR1 hk1 => ?_
    obtain ⟨r2, hc2, hcases⟩ := cont2 hne1 h
    have hr := hR1.r
    have hx := hR0.keep hx (by decide) (by decide) hk1
    have hb5 := hR0.keep hb5 (by decide) (by decide) hk1
    have hW1 := hW0.keep hR0 hk1
    simp only [RR, seval]
    refine hK _ _ ?_; clear hK K
    refine awp_seq_k fun K hK => ?_
    refine awp_region rfl ?_
    simp only [f0, f1, f5, hr, hx, hb5, nxr, nrx, nb5_r, nr_b5, nb5_x, nx_b5, hg0, hg1, RR, seval]
    refine awpC_J (hVb _ _ _ _ _ hR1 hW1 hx hc2) (fun _ => trivial) fun w2 vo2 H2 uw2 hwv2 hne2 hR2 hk2 => ?_
    have hr := hR2.r
    have hx := hR1.keep hx (by decide) (by decide) hk2
    have hb5 := hR1.keep hb5 (by decide) (by decide) hk2
    have hW2 := hW1.keep hR1 hk2
    have hk02 := ((hk0.trans hk1).trans hk2).w x wv
    simp only [RR, seval]
    refine hK _ _ ?_; clear hK K
    refine awp_seq ?_
    refine awp_seq_k fun K hK => ?_
    refine awp_region rfl ?_
    simp only [f0, hr, hx, hb5, nxr, nrx, nb5_r, nr_b5, nb5_x, nx_b5, hg0, hg1, RR, seval]
    refine hK _ _ ?_; clear hK K
    refine awp_if _ rfl (fun hc13 => ?_) (fun hc13 => ?_)
    · obtain ⟨e1, s1, hr2⟩ := enR_fin (o := r2) (by simpa using hc13)
      have ho : o = .fin e1 s1 := by
        rcases hcases with ⟨x1, s1', _, _, h4⟩ | ⟨e2, s2, _, h3, h4⟩
        · rw [hr2] at h4
          exact (Option.some.inj (show some (Rz.fin e1 s1) = some o from h4)).symm
        · rw [hr2] at h3; cases h3; exact h4
      subst ho
      subst hr2
      refine awp_ret ?_; simp only [bodyQ, aresult, ares, hg0, hg1, RR, seval]
      exact Gives.run ⟨ow, false, 0, vo2, rfl, rfl, hu, by simp [u32R], (fun _ => rfl), (fun _ _ e => by cases e), (fun e s h => by cases h; exact hne2 _ _ rfl), hx, hW2, hR2, hk02⟩
    · obtain ⟨x2, s2, rfl⟩ := enR_val (o := r2) hne2 (by simpa using hc13)
      obtain rfl := hwv2 _ _ rfl
      obtain ⟨x1, s1, rfl, h3⟩ : ∃ x s1, r1 = .val x s1 ∧ (if 0 ≤ ii then bindR (atR ii x s2) fun j st => some (Rz.val ((none : Option Int), ow) (storeR ii j w2 st)) else none) = some o := by
        rcases hcases with ⟨x1, s1, q1, _, q3⟩ | ⟨e2, s3, _, q3, _⟩
        · exact ⟨x1, s1, q1, q3⟩
        · cases q3
      obtain rfl := hwv1 _ _ rfl
      have hR2 : RunJ p cx r vv abs s2 vo2 0 H2 := hR2
      have hr := hR2.r
      by_cases z0 : 0 ≤ ii
      rotate_left
      · rw [if_neg z0] at h3; cases h3
      rw [if_pos z0] at h3
      obtain ⟨ia, rfl⟩ := Int.eq_ofNat_of_zero_le z0
      simp only [Int.toNat_natCast, atR] at h3
      obtain ⟨la, hla⟩ : ∃ la, s2.arrs[ia]? = some la := by
        cases hla : s2.arrs[ia]? with
        | none => rw [hla] at h3; cases h3
        | some la => exact ⟨la, rfl⟩
      rw [hla] at h3
      simp only at h3
      have hl : ia < abs.length := by rw [hR2.al]; exact (List.getElem?_eq_some_iff.1 hla).1
      have hb := List.getElem?_eq_getElem hl
      generalize abs[ia] = ba at hb
      have hgar := arrRows_get abs s2.arrs ia ba la hb hla
      have hba := hR2.a ia ba la hb hla
      have hlen := (hR2.ua la (List.mem_of_getElem? hla)).1
      obtain ⟨m1, rfl⟩ := Int.eq_ofNat_of_zero_le uw1.1
      have hx2 := uw1.2
      have e1 : IntKind.wrap .u64 (m1 : Int) = (m1 : Int) := by simp [IntKind.wrap, IntKind.signed, IntKind.bits]; omega
      have e2 : IntKind.wrap .u64 (la.length : Int) = (la.length : Int) := by simp [IntKind.wrap, IntKind.signed, IntKind.bits]; omega
      rw [Int.toNat_natCast] at h3
      have nba : ba ≠ r := hR2.nr hba
      have nba' : r ≠ ba := fun e => nba e.symm
      have nbx : ba ≠ x := fun e => by rw [e, hx] at hba; cases hba
      have nbx' : x ≠ ba := fun e => nbx e.symm
      have hr := hR2.r
      refine awp_skip ?_; try simp only [RR]
      refine awp_seq ?_
      refine awp_seq_k fun K hK => ?_
      refine awp_region rfl ?_
      simp only [f0, f10, hr, hx, hb5, hba, nxr, nrx, nb5_r, nr_b5, nb5_x, nx_b5, nba, nba', nbx, nbx', hg0, hg1, hgar, e1, e2, RR, seval]
      refine hK _ _ ?_; clear hK K
      refine awp_if _ rfl (fun hc14 => ?_) (fun hc14 => ?_)
      · have hf : ¬ m1 < la.length := by have := of_decide_eq_true hc14; omega
        rw [if_neg hf] at h3
        cases h3
        refine awp_seq_k fun K hK => ?_
        refine awp_region rfl ?_
        simp only [f0, hr, hx, hb5, hba, nxr, nrx, nb5_r, nr_b5, nb5_x, nx_b5, nba, nba', nbx, nbx', hg0, hg1, hgar, e1, e2, RR, seval]
        refine hK _ _ ?_; clear hK K
        have hxf := (upd_ne H2 (some (.rows 11 [[.isl 1 (p.vars.map strRow), .isl 2 (p.arrs.map Ar.row), .isl 5 (p.funs.map Fu.row), .str cx.inp, .int .i64 cx.fuel, vv, .isl 1 (arrRows abs s2.arrs), vo2, .int .i64 s2.read, .int .i64 s2.ticks, .int .i64 3]])) nxr).trans hx
        have hWf := hW2.off (hW2.h.offsz hR2.r (by decide)) (some (.rows 11 [[.isl 1 (p.vars.map strRow), .isl 2 (p.arrs.map Ar.row), .isl 5 (p.funs.map Fu.row), .str cx.inp, .int .i64 cx.fuel, vv, .isl 1 (arrRows abs s2.arrs), vo2, .int .i64 s2.read, .int .i64 s2.ticks, .int .i64 3]]))
        refine awp_ret ?_; simp only [bodyQ, aresult, ares, hg0, hg1, hgar, e1, e2, RR, seval]
        exact Gives.run ⟨ow, false, 0, vo2, rfl, rfl, hu, by simp [u32R], (fun _ => rfl), (fun _ _ e => by cases e), (fun e s h => by cases h; decide), hxf, hWf, RunJ.turn hR2 3 rfl rfl rfl hR2.rd hR2.tk, hk02.trans ((keepsJ.run _).w x wv)⟩
      · have hf : m1 < la.length := by have := of_decide_eq_false hc14; omega
        have zf : (m1 : Int) < (la.length : Int) := by omega
        rw [if_pos hf] at h3
        simp only [bindR, Option.some.injEq] at h3
        have hgy := rowU_get (List.getElem?_eq_getElem hf)
        refine awp_skip ?_; try simp only [RR]
        refine awp_region rfl ?_
        simp only [f0, f10, hr, hx, hb5, hba, nxr, nrx, nb5_r, nr_b5, nb5_x, nx_b5, nba, nba', nbx, nbx', hg0, hg1, hgar, e1, e2, hgy, zf, RR, seval]
        try simp only [bodyQ, aresult, ares, f0, f1, f5, f10, hr, hx, hb5, hba, nxr, nrx, nb5_r, nr_b5, nb5_x, nx_b5, nba, nba', nbx, nbx', hg0, hg1, hgar, e1, e2, hgy, zf, RR, seval]
        have hxf := (upd_ne H2 (some (.rows 1 ((la.map rowU).set m1 [.int .u32 w2]))) nbx').trans hx
        have hWf := hW2.off (hW2.offa (List.mem_of_getElem? hb)) (some (.rows 1 ((la.map rowU).set m1 [.int .u32 w2])))
        have hRf := RunJ.setA hR2 hb hla m1 w2 uw2
        subst h3
        exact Gives.run ⟨ow, false, 0, vo2, rfl, rfl, hu, by simp [u32R], (fun _ => rfl), (fun _ _ e => by cases e; exact ⟨rfl, rfl, rfl⟩), (fun _ _ e => by cases e), hxf, hWf, hRf, hk02.trans ((keepsJ.arr (List.mem_of_getElem? hb) _).w x wv)⟩
set_option maxHeartbeats 4000000 in
theorem jput_step (ih : PrgJ p cx r vv abs n) (hj : JOk p cx) (i : Nat) (rs : Str → Bool × Int) (ow : List Int) (e : Sm) (hkd : e.kind = 3) (st : RS) (vo : AV) (H : Hp) (x : Nat) (wv : AV) (o : Rz (Option Int × List Int)) (he : e.ok) (hU : ∀ u ∈ useS e, UJ p i rs u) (hKE : ∀ u ∈ usesE e.es, UJ p i rs u) (hKT : ∀ u ∈ usesS e.thn, UJ p i rs u) (hKU : ∀ u ∈ usesS e.els, UJ p i rs u) (hR : RunJ p cx r vv abs st vo 0 H) (hW : OwnW vv abs vo wv ow H) (hu : ∀ y ∈ ow, u32R y) (hx : H x = some (.rows 4 [[.int .i64 i, wv, .bool false, .int .u32 0]])) (h : evS cx (n + 1) rs ow e st = some o) :
    Con env 70 [.ptr 11 r 0 0, .ptr 4 x 0 0, .agg e.row] H (postT p cx r vv abs vo x i wv ow.length H o) := by
  obtain ⟨k, s, l, t, u⟩ := e
  have hr := hR.r
  have hes := he.es
  have hth := he.thn
  have hel := he.els
  simp only [Sm.es, Sm.thn, Sm.els, Sm.kind] at hes hth hel hKE hKT hKU hkd
  have hrow : (Sm.mk k s l t u).row = [.int .i64 k, .str s, .isl 5 (l.map Ex.row), .isl 5 (t.map Sm.row), .isl 5 (u.map Sm.row)] := Sm.row_eq _
  rw [hrow]
  clear hrow
  have nxr : x ≠ r := fun e => by rw [e, hr] at hx; cases hx
  have nrx : r ≠ x := fun e => nxr e.symm
  simp only [evS] at h
  have hV := fun (j : Nat) (a : Ex) (hj : l[j]? = some a) st vo en H o h3 h4 h5 h6 => ih.V i rs ow a st vo en H x wv false 0 o (hes.all _ (List.mem_of_getElem? hj)) (fun u hu => hKE u ((usesE_mem (List.mem_of_getElem? hj)).1 u hu)) (fun u hu => hKE u ((usesE_mem (List.mem_of_getElem? hj)).2 u hu)) h3 h4 hu h5 h6
  have hpav : p.av = .agg [.isl 1 (p.vars.map strRow), .isl 2 (p.arrs.map Ar.row), .isl 5 (p.funs.map Fu.row)] := rfl
  obtain ⟨HX, hHX⟩ : ∃ X, X = H := ⟨_, rfl⟩
  subst hkd
  simp only [show ¬ (3 : Int) = 1 by decide, show ¬ (3 : Int) = 2 by decide, if_false, if_true] at h
  cases hl0 : l[0]? with
  | none => rw [hl0] at h; cases h
  | some a =>
    simp only [hl0] at h
    have hg0 := getE hl0
    obtain ⟨r1, h1⟩ : ∃ r1, evE cx n rs ow a st = some r1 := by
      cases h1 : evE cx n rs ow a st with
      | none => rw [h1] at h; cases h
      | some r1 => exact ⟨r1, rfl⟩
    rw [h1] at h
    have hVa := fun H' g1 g2 g3 => hV 0 a hl0 st vo 0 H' r1 g1 g2 g3 (.inl ⟨rfl, h1⟩)
    rw [a.row_eq] at hVa
    refine con_of 251 [] Try.func70 rfl rfl rfl rfl ?_
    refine awp_seq_k fun K hK => ?_
    refine awp_region rfl ?_
    simp only [hr, hx, nxr, nrx, hg0, RR, seval]
    refine awpN_intro fun b5 hn5 => ?_
    have nb5_r : b5 ≠ r := fun e => by rw [e] at hn5; simp only [hr, nxr, nrx, RR, seval, reduceCtorEq] at hn5
    have nr_b5 : r ≠ b5 := fun e => nb5_r e.symm
    have nb5_x : b5 ≠ x := fun e => by rw [e] at hn5; simp only [hx, nxr, nrx, RR, seval, reduceCtorEq] at hn5
    have nx_b5 : x ≠ b5 := fun e => nb5_x e.symm
    simp only [hr, hx, nxr, nrx, nb5_r, nr_b5, nb5_x, nx_b5, hg0, RR, seval]
    refine hK _ _ ?_; clear hK K
    refine awp_seq_k fun K hK => ?_
    refine awp_region rfl ?_
    simp only [hr, hx, nxr, nrx, nb5_r, nr_b5, nb5_x, nx_b5, hg0, RR, seval]
    refine hK _ _ ?_; clear hK K
    refine awp_block ?_
    refine awp_seq_k fun K hK => ?_
    refine awp_region rfl ?_
    simp only [hg0, RR, seval]
    refine hK _ _ ?_; clear hK K
    refine awp_if false rfl (fun hc => by cases hc) (fun _ => ?_)
    refine awp_seq_k fun K hK => ?_
    refine awp_region rfl ?_
    simp only [hg0, RR, seval]
    refine hK _ _ ?_; clear hK K
    refine awp_if false rfl (fun hc => by cases hc) (fun _ => ?_)
    refine awp_seq_k fun K hK => ?_
    refine awp_region rfl ?_
    simp only [hg0, RR, seval]
    refine hK _ _ ?_; clear hK K
    refine awp_if true rfl (fun _ => ?_) (fun hc => by cases hc)
    refine awp_name fun F1 M1 hfr hH => ?_
    have g0 := hfr 0
    have g1 := hfr 1
    have g5 := hfr 5
    have gr := hH r
    have gx := hH x
    have gb5 := hH b5
    try simp only [hr, hx, nxr, nrx, nb5_r, nr_b5, nb5_x, nx_b5, hg0, RR, seval] at g0 g1 g5 gr gx gb5
    have hM := funext hH
    have hR0 := (hR.new hn5 _).same hH
    have hW0 := (hW.new hn5 _).same hH
    have hk0 : keepsJ r vv abs vo vo H M1 := by rw [hM]; exact (keepsJ.refl _ _ _ _ _).updN hn5 _
    have f0 := g0; clear g0
    have f1 := g1; clear g1
    have f5 := g5; clear g5
    have hr := gr; clear gr
    have hx := gx; clear gx
    have hb5 := gb5; clear gb5
    clear hfr hH
    refine awp_seq_k fun K hK => ?_
    refine awp_region rfl ?_
    simp only [f0, f1, f5, hr, hx, hb5, nxr, nrx, nb5_r, nr_b5, nb5_x, nx_b5, hg0, RR, seval]
    refine awpC_J (hVa _ hR0 hW0 hx) (fun _ => trivial) fun w1 vo1 H1 uw1 hwv1 hne1 hR1 hk1 => ?_
    have hr := hR1.r
    have hx := hR0.keep hx (by decide) (by decide) hk1
    have hb5 := hR0.keep hb5 (by decide) (by decide) hk1
    have hW1 := hW0.keep hR0 hk1
    have hk01 := (hk0.trans hk1).w x wv
    simp only [RR, seval]
    refine hK _ _ ?_; clear hK K
    refine awp_seq ?_
    refine awp_seq_k fun K hK => ?_
    refine awp_region rfl ?_
    simp only [f0, hr, hx, hb5, nxr, nrx, nb5_r, nr_b5, nb5_x, nx_b5, hg0, RR, seval]
    refine hK _ _ ?_; clear hK K
    refine awp_if _ rfl (fun hc19 => ?_) (fun hc19 => ?_)
    · obtain ⟨e1, s1, rfl⟩ := enR_fin (o := r1) (by simpa using hc19)
      obtain rfl := Option.some.inj (show some (Rz.fin e1 s1) = some o from h)
      refine awp_ret ?_; simp only [bodyQ, aresult, ares, hg0, RR, seval]
      exact Gives.run ⟨ow, false, 0, vo1, rfl, rfl, hu, by simp [u32R], (fun _ => rfl), (fun _ _ e => by cases e), (fun e s h => by cases h; exact hne1 _ _ rfl), hx, hW1, hR1, hk01⟩
    · obtain ⟨x1, s1, rfl⟩ := enR_val (o := r1) hne1 (by simpa using hc19)
      obtain rfl := hwv1 _ _ rfl
      have hR1 : RunJ p cx r vv abs s1 vo1 0 H1 := hR1
      have hr := hR1.r
      have h : bindR (some (putR w1 s1)) (fun _ st => some (Rz.val ((none : Option Int), ow) st)) = some o := h
      have hown := hR1.o
      have hub := hR1.ub
      have hvo : ∃ m, s1.out.length = m ∧ (vo1 = .nsl ∧ m = 0 ∨ ∃ b, vo1 = .osl 1 b m) := ⟨_, rfl, by
        rcases hown with ⟨h1, h2⟩ | ⟨b, h1, h2⟩
        · exact .inl ⟨h1, by simpa using h2⟩
        · exact .inr ⟨b, by simpa using h1⟩⟩
      obtain ⟨m, hm, hvo⟩ := hvo
      have hc : ((UInt8.ofNat (IntKind.wrap .u8 w1).toNat).toNat : Int) = IntKind.wrap .u8 w1 := by
        have h1 : IntKind.wrap .u8 w1 = w1 % 256 := by simp [IntKind.wrap, IntKind.signed, IntKind.bits]
        rw [h1]
        have := Int.emod_nonneg w1 (show (256 : Int) ≠ 0 by decide)
        have := Int.emod_lt_of_pos w1 (show (0 : Int) < 256 by decide)
        simp only [UInt8.toNat_ofNat']
        omega
      have hrow : [AV.int .u8 (IntKind.wrap .u8 w1)] = rowB (UInt8.ofNat (IntKind.wrap .u8 w1).toNat) := by unfold rowB; rw [hc]
      have hx' := hx
      rcases hvo with ⟨rfl, rfl⟩ | ⟨b, rfl⟩
      all_goals
        refine awp_skip ?_; try simp only [RR]
        refine awp_seq ?_
        refine awp_seq_k fun K hK => ?_
        refine awp_region rfl ?_
        simp only [f0, hr, hx, hb5, nxr, nrx, nb5_r, nr_b5, nb5_x, nx_b5, hg0, RR, seval]
        refine hK _ _ ?_; clear hK K
        refine awp_if _ rfl (fun hc20 => ?_) (fun hc20 => ?_)
        · try (cases hc20; done)
          all_goals
            have zf : 65536 ≤ s1.out.length := by have := of_decide_eq_true hc20; omega
            unfold putR at h
            rw [if_pos zf] at h
            cases h
            refine awp_seq_k fun K hK => ?_
            refine awp_region rfl ?_
            simp only [f0, hr, hx, hb5, nxr, nrx, nb5_r, nr_b5, nb5_x, nx_b5, hg0, RR, seval]
            refine hK _ _ ?_; clear hK K
            have hxf := fun o => (upd_ne H1 o nxr).trans hx'
            have hWf := fun o => hW1.off (hW1.h.offsz hR1.r (by decide)) o
            refine awp_ret ?_; simp only [bodyQ, aresult, ares, hg0, RR, seval]
            exact Gives.run ⟨ow, false, 0, _, rfl, rfl, hu, by simp [u32R], (fun _ => rfl), (fun _ _ e => by cases e), (fun e s h => by cases h; decide), hxf _, hWf _, RunJ.turn hR1 4 rfl rfl rfl hR1.rd hR1.tk, hk01.trans ((keepsJ.run _).w x wv)⟩
        · try (cases hc20; done)
          all_goals
            have zf : ¬ 65536 ≤ s1.out.length := by first | omega | (have := of_decide_eq_false hc20; omega)
            unfold putR at h
            rw [if_neg zf] at h
            cases h
            refine awp_skip ?_; try simp only [RR]
            refine awp_region rfl ?_
            simp only [f0, f1, f5, hr, hx, hb5, nxr, nrx, nb5_r, nr_b5, nb5_x, nx_b5, hg0, RR, seval]
            refine awpB_sealed ?_
            simp only [f0, f1, f5, hr, hx, hb5, nxr, nrx, nb5_r, nr_b5, nb5_x, nx_b5, hg0, RR, seval]
            refine awpA_ownF hown (by simp only [List.length_map, List.length_cons, List.length_nil]; omega) (fun _ _ => trivial) fun v' H' ho' hk' hg' => ?_
            have hce := ho'.cells
            have hoe := ho'.one1
            have hr := hk' r _ hr (hown.offsz hr (by decide) _ _)
            simp only [hce, hoe, Option.bind_some, List.drop, hr, f0, f1, f5, hr, hx, hb5, nxr, nrx, nb5_r, nr_b5, nb5_x, nx_b5, hg0, RR, seval]
            rw [hrow] at ho'
            obtain ⟨g1, g2⟩ := hR1.put (by omega) ho' hk' hg'
            have hxf := hR1.keep hx' (by decide) (by decide) g2
            have hWf := hW1.keep hR1 g2
            have hkf := hk01.trans (g2.w x wv)
            try simp only [bodyQ, aresult, ares]
            exact Gives.run ⟨ow, false, 0, v', rfl, rfl, hu, by simp [u32R], (fun _ => rfl), (fun _ _ e => by cases e; exact ⟨rfl, rfl, rfl⟩), (fun _ _ e => by cases e), hxf, hWf, g1, hkf⟩
set_option maxHeartbeats 4000000 in
theorem jif_step (ih : PrgJ p cx r vv abs n) (hj : JOk p cx) (i : Nat) (rs : Str → Bool × Int) (ow : List Int) (e : Sm) (hkd : e.kind = 4) (st : RS) (vo : AV) (H : Hp) (x : Nat) (wv : AV) (o : Rz (Option Int × List Int)) (he : e.ok) (hU : ∀ u ∈ useS e, UJ p i rs u) (hKE : ∀ u ∈ usesE e.es, UJ p i rs u) (hKT : ∀ u ∈ usesS e.thn, UJ p i rs u) (hKU : ∀ u ∈ usesS e.els, UJ p i rs u) (hR : RunJ p cx r vv abs st vo 0 H) (hW : OwnW vv abs vo wv ow H) (hu : ∀ y ∈ ow, u32R y) (hx : H x = some (.rows 4 [[.int .i64 i, wv, .bool false, .int .u32 0]])) (h : evS cx (n + 1) rs ow e st = some o) :
    Con env 70 [.ptr 11 r 0 0, .ptr 4 x 0 0, .agg e.row] H (postT p cx r vv abs vo x i wv ow.length H o) := by
  obtain ⟨k, s, l, t, u⟩ := e
  have hr := hR.r
  have hes := he.es
  have hth := he.thn
  have hel := he.els
  simp only [Sm.es, Sm.thn, Sm.els, Sm.kind] at hes hth hel hKE hKT hKU hkd
  have hrow : (Sm.mk k s l t u).row = [.int .i64 k, .str s, .isl 5 (l.map Ex.row), .isl 5 (t.map Sm.row), .isl 5 (u.map Sm.row)] := Sm.row_eq _
  rw [hrow]
  clear hrow
  have nxr : x ≠ r := fun e => by rw [e, hr] at hx; cases hx
  have nrx : r ≠ x := fun e => nxr e.symm
  simp only [evS] at h
  have hV := fun (j : Nat) (a : Ex) (hj : l[j]? = some a) st vo en H o h3 h4 h5 h6 => ih.V i rs ow a st vo en H x wv false 0 o (hes.all _ (List.mem_of_getElem? hj)) (fun u hu => hKE u ((usesE_mem (List.mem_of_getElem? hj)).1 u hu)) (fun u hu => hKE u ((usesE_mem (List.mem_of_getElem? hj)).2 u hu)) h3 h4 hu h5 h6
  have hpav : p.av = .agg [.isl 1 (p.vars.map strRow), .isl 2 (p.arrs.map Ar.row), .isl 5 (p.funs.map Fu.row)] := rfl
  obtain ⟨HX, hHX⟩ : ∃ X, X = H := ⟨_, rfl⟩
  subst hkd
  simp only [show ¬ (4 : Int) = 1 by decide, show ¬ (4 : Int) = 2 by decide, show ¬ (4 : Int) = 3 by decide, if_false, if_true] at h
  cases hl0 : l[0]? with
  | none => rw [hl0] at h; cases h
  | some a =>
    simp only [hl0] at h
    have hg0 := getE hl0
    obtain ⟨r1, h1⟩ : ∃ r1, evE cx n rs ow a st = some r1 := by
      cases h1 : evE cx n rs ow a st with
      | none => rw [h1] at h; cases h
      | some r1 => exact ⟨r1, rfl⟩
    rw [h1] at h
    have hVa := fun H' g1 g2 g3 => hV 0 a hl0 st vo 0 H' r1 g1 g2 g3 (.inl ⟨rfl, h1⟩)
    rw [a.row_eq] at hVa
    refine con_of 251 [] Try.func70 rfl rfl rfl rfl ?_
    refine awp_seq_k fun K hK => ?_
    refine awp_region rfl ?_
    simp only [hr, hx, nxr, nrx, hg0, RR, seval]
    refine awpN_intro fun b5 hn5 => ?_
    have nb5_r : b5 ≠ r := fun e => by rw [e] at hn5; simp only [hr, nxr, nrx, RR, seval, reduceCtorEq] at hn5
    have nr_b5 : r ≠ b5 := fun e => nb5_r e.symm
    have nb5_x : b5 ≠ x := fun e => by rw [e] at hn5; simp only [hx, nxr, nrx, RR, seval, reduceCtorEq] at hn5
    have nx_b5 : x ≠ b5 := fun e => nb5_x e.symm
    simp only [hr, hx, nxr, nrx, nb5_r, nr_b5, nb5_x, nx_b5, hg0, RR, seval]
    refine hK _ _ ?_; clear hK K
    refine awp_seq_k fun K hK => ?_
    refine awp_region rfl ?_
    simp only [hr, hx, nxr, nrx, nb5_r, nr_b5, nb5_x, nx_b5, hg0, RR, seval]
    refine hK _ _ ?_; clear hK K
    refine awp_block ?_
    refine awp_seq_k fun K hK => ?_
    refine awp_region rfl ?_
    simp only [hg0, RR, seval]
    refine hK _ _ ?_; clear hK K
    refine awp_if false rfl (fun hc => by cases hc) (fun _ => ?_)
    refine awp_seq_k fun K hK => ?_
    refine awp_region rfl ?_
    simp only [hg0, RR, seval]
    refine hK _ _ ?_; clear hK K
    refine awp_if false rfl (fun hc => by cases hc) (fun _ => ?_)
    refine awp_seq_k fun K hK => ?_
    refine awp_region rfl ?_
    simp only [hg0, RR, seval]
    refine hK _ _ ?_; clear hK K
    refine awp_if false rfl (fun hc => by cases hc) (fun _ => ?_)
    refine awp_seq_k fun K hK => ?_
    refine awp_region rfl ?_
    simp only [hg0, RR, seval]
    refine hK _ _ ?_; clear hK K
    refine awp_if true rfl (fun _ => ?_) (fun hc => by cases hc)
    refine awp_name fun F1 M1 hfr hH => ?_
    have g0 := hfr 0
    have g1 := hfr 1
    have g5 := hfr 5
    have gr := hH r
    have gx := hH x
    have gb5 := hH b5
    try simp only [hr, hx, nxr, nrx, nb5_r, nr_b5, nb5_x, nx_b5, hg0, RR, seval] at g0 g1 g5 gr gx gb5
    have hM := funext hH
    have hR0 := (hR.new hn5 _).same hH
    have hW0 := (hW.new hn5 _).same hH
    have hk0 : keepsJ r vv abs vo vo H M1 := by rw [hM]; exact (keepsJ.refl _ _ _ _ _).updN hn5 _
    have f0 := g0; clear g0
    have f1 := g1; clear g1
    have f5 := g5; clear g5
    have hr := gr; clear gr
    have hx := gx; clear gx
    have hb5 := gb5; clear gb5
    clear hfr hH
    refine awp_seq_k fun K hK => ?_
    refine awp_region rfl ?_
    simp only [f0, f1, f5, hr, hx, hb5, nxr, nrx, nb5_r, nr_b5, nb5_x, nx_b5, hg0, RR, seval]
    refine awpC_J (hVa _ hR0 hW0 hx) (fun _ => trivial) fun w1 vo1 H1 uw1 hwv1 hne1 hR1 hk1 => ?_
    have hr := hR1.r
    have hx := hR0.keep hx (by decide) (by decide) hk1
    have hb5 := hR0.keep hb5 (by decide) (by decide) hk1
    have hW1 := hW0.keep hR0 hk1
    have hk01 := (hk0.trans hk1).w x wv
    simp only [RR, seval]
    refine hK _ _ ?_; clear hK K
    refine awp_seq_k fun K hK => ?_
    refine awp_region rfl ?_
    simp only [hg0, RR, seval]
    refine hK _ _ ?_; clear hK K
    refine awp_if _ rfl (fun hc25 => ?_) (fun hc25 => ?_)
    · have hw1 : ¬ w1 = 0 := by simpa using hc25
      have hc2 : contJ (enR r1) r1.st (evL cx n rs ow t r1.st) o := by
        cases r1 with
        | fin e1 s1 =>
          obtain rfl := Option.some.inj (show some (Rz.fin e1 s1) = some o from h)
          exact .inr ⟨hne1 _ _ rfl, rfl⟩
        | val x1 s1 =>
          obtain rfl := hwv1 _ _ rfl
          simp only [bindR] at h
          rw [if_neg hw1] at h
          exact .inl ⟨rfl, h⟩
      refine awp_region rfl ?_
      simp only [f0, f1, f5, hr, hx, hb5, nxr, nrx, nb5_r, nr_b5, nb5_x, nx_b5, hg0, RR, seval]
      refine awpC_T (ih.L i rs ow t r1.st vo1 (enR r1) _ x wv false 0 o hth hKT hR1 hW1 hu hx (by simp [u32R]) (fun _ => rfl) (fun _ => rfl) hc2) (fun _ => trivial) fun ow2 bk2 vl2 vo2 H2 g1 g2 g3 g4 g5 g6 g7 g8 g9 g10 => ?_
      simp only [RR, seval]
      try simp only [bodyQ, aresult, ares, f0, f1, f5, hr, hx, hb5, nxr, nrx, nb5_r, nr_b5, nb5_x, nx_b5, hg0, RR, seval]
      exact Gives.run ⟨ow2, bk2, vl2, vo2, rfl, g1, g2, g3, g4, g5, g6, g7, g8, g9, hk01.trans g10⟩
    · have hw1 : w1 = 0 := by simpa using hc25
      have hc2 : contJ (enR r1) r1.st (evL cx n rs ow u r1.st) o := by
        cases r1 with
        | fin e1 s1 =>
          obtain rfl := Option.some.inj (show some (Rz.fin e1 s1) = some o from h)
          exact .inr ⟨hne1 _ _ rfl, rfl⟩
        | val x1 s1 =>
          obtain rfl := hwv1 _ _ rfl
          simp only [bindR] at h
          rw [if_pos hw1] at h
          exact .inl ⟨rfl, h⟩
      refine awp_region rfl ?_
      simp only [f0, f1, f5, hr, hx, hb5, nxr, nrx, nb5_r, nr_b5, nb5_x, nx_b5, hg0, RR, seval]
      refine awpC_T (ih.L i rs ow u r1.st vo1 (enR r1) _ x wv false 0 o hel hKU hR1 hW1 hu hx (by simp [u32R]) (fun _ => rfl) (fun _ => rfl) hc2) (fun _ => trivial) fun ow2 bk2 vl2 vo2 H2 g1 g2 g3 g4 g5 g6 g7 g8 g9 g10 => ?_
      simp only [RR, seval]
      try simp only [bodyQ, aresult, ares, f0, f1, f5, hr, hx, hb5, nxr, nrx, nb5_r, nr_b5, nb5_x, nx_b5, hg0, RR, seval]
      exact Gives.run ⟨ow2, bk2, vl2, vo2, rfl, g1, g2, g3, g4, g5, g6, g7, g8, g9, hk01.trans g10⟩
end
end Go.Proofs.Ytlokndnkpleegaa

namespace Go.Al
/-- a loop behind a tick -/
def restW (cx : Cx) (d : Nat) (rs : Str → Bool × Int) (c : Ex) (t : List Sm) (ow : List Int) (st : RS) : Option (Rz (Option Int × List Int)) :=
  bindR (evE cx d rs ow c st) fun x st => if x = 0 then some (.val (none, ow) st) else bindR (evL cx d rs ow t st) fun r st => match r.1 with
    | some v => some (.val (some v, r.2) st)
    | none => evW cx d rs r.2 c t st
theorem evW_succ (cx : Cx) (d : Nat) (rs : Str → Bool × Int) (c : Ex) (t : List Sm) (ow : List Int) (st : RS) : evW cx (d + 1) rs ow c t st = bindR (some (tickR cx st)) fun _ st => restW cx d rs c t ow st := by
  simp only [evW, restW] <;> rfl
end Go.Al
namespace Go.Proofs.Ytlokndnkpleegaa
open Go.Al
section
variable {p : Pg} {cx : Cx} {r : Nat} {vv : AV} {abs : List Nat} {n : Nat}
theorem jexit {r1 : Rz Int} {o : Rz (Option Int × List Int)} {w1 : Int} {ow : List Int} {bk : Bool} {vl : Int} {K : Int → RS → Option (Rz (Option Int × List Int))} {x i : Nat} {wv vo1 : AV} {H HX : Hp} {vo : AV} (hwv1 : ∀ v s, r1 = .val v s → w1 = v) (hne1 : ∀ e s, r1 = .fin e s → e ≠ 0) (h2 : bindR (some r1) (fun x st => if x = 0 then some (Rz.val ((none : Option Int), ow) st) else K x st) = some o) (hbk : bk = false) (hvl : vl = 0) (hz : w1 = 0)
    (hx : H x = some (.rows 4 [[.int .i64 i, wv, .bool bk, .int .u32 vl]])) (hW : OwnW vv abs vo1 wv ow H) (hR : RunJ p cx r vv abs r1.st vo1 (enR r1) H) (hk : keepsW r vv abs vo vo1 x wv HX H) :
    (∀ q s, o = .val q s → ow = q.2 ∧ bk = q.1.isSome ∧ vl = q.1.getD 0) ∧ (∀ e s, o = .fin e s → e ≠ 0) ∧ H x = some (.rows 4 [[.int .i64 i, wv, .bool bk, .int .u32 vl]]) ∧ OwnW vv abs vo1 wv ow H ∧ RunJ p cx r vv abs o.st vo1 (enR o) H ∧ keepsW r vv abs vo vo1 x wv HX H := by
  cases r1 with
  | fin e s =>
    obtain rfl := Option.some.inj (show some (Rz.fin e s) = some o from h2)
    exact ⟨(fun _ _ e => by cases e), (fun _ _ h => by cases h; exact hne1 _ _ rfl), hx, hW, hR, hk⟩
  | val y s =>
    obtain rfl := hwv1 _ _ rfl
    simp only [bindR] at h2
    rw [if_pos hz] at h2
    cases h2
    exact ⟨(fun _ _ e => by cases e; exact ⟨rfl, hbk, hvl⟩), (fun _ _ e => by cases e), hx, hW, hR, hk⟩
set_option maxHeartbeats 4000000 in
theorem jwhile_step (ih : PrgJ p cx r vv abs n) (hj : JOk p cx) (i : Nat) (rs : Str → Bool × Int) (ow : List Int) (e : Sm) (hkd : e.kind = 5) (st : RS) (vo : AV) (H : Hp) (x : Nat) (wv : AV) (o : Rz (Option Int × List Int)) (he : e.ok) (hU : ∀ u ∈ useS e, UJ p i rs u) (hKE : ∀ u ∈ usesE e.es, UJ p i rs u) (hKT : ∀ u ∈ usesS e.thn, UJ p i rs u) (hKU : ∀ u ∈ usesS e.els, UJ p i rs u) (hR : RunJ p cx r vv abs st vo 0 H) (hW : OwnW vv abs vo wv ow H) (hu : ∀ y ∈ ow, u32R y) (hx : H x = some (.rows 4 [[.int .i64 i, wv, .bool false, .int .u32 0]])) (h : evS cx (n + 1) rs ow e st = some o) :
    Con env 70 [.ptr 11 r 0 0, .ptr 4 x 0 0, .agg e.row] H (postT p cx r vv abs vo x i wv ow.length H o) := by
  obtain ⟨k, s, l, t, u⟩ := e
  have hr := hR.r
  have hes := he.es
  have hth := he.thn
  have hel := he.els
  simp only [Sm.es, Sm.thn, Sm.els, Sm.kind] at hes hth hel hKE hKT hKU hkd
  have hrow : (Sm.mk k s l t u).row = [.int .i64 k, .str s, .isl 5 (l.map Ex.row), .isl 5 (t.map Sm.row), .isl 5 (u.map Sm.row)] := Sm.row_eq _
  rw [hrow]
  clear hrow
  have nxr : x ≠ r := fun e => by rw [e, hr] at hx; cases hx
  have nrx : r ≠ x := fun e => nxr e.symm
  simp only [evS] at h
  have hV := fun (j : Nat) (a : Ex) (hj : l[j]? = some a) st vo en H o h3 h4 h5 h6 => ih.V i rs ow a st vo en H x wv false 0 o (hes.all _ (List.mem_of_getElem? hj)) (fun u hu => hKE u ((usesE_mem (List.mem_of_getElem? hj)).1 u hu)) (fun u hu => hKE u ((usesE_mem (List.mem_of_getElem? hj)).2 u hu)) h3 h4 hu h5 h6
  have hpav : p.av = .agg [.isl 1 (p.vars.map strRow), .isl 2 (p.arrs.map Ar.row), .isl 5 (p.funs.map Fu.row)] := rfl
  obtain ⟨HX, hHX⟩ : ∃ X, X = H := ⟨_, rfl⟩
  subst hkd
  simp only [show ¬ (5 : Int) = 1 by decide, show ¬ (5 : Int) = 2 by decide, show ¬ (5 : Int) = 3 by decide, show ¬ (5 : Int) = 4 by decide, if_false, if_true] at h
  cases hl0 : l[0]? with
  | none => rw [hl0] at h; cases h
  | some c =>
    simp only [hl0] at h
    have hg0 := getE hl0
    obtain ⟨n', rfl⟩ : ∃ n', n = n' + 1 := by
      cases n with
      | zero => simp [evW] at h
      | succ n' => exact ⟨n', rfl⟩
    rw [evW_succ] at h
    have hcm := List.mem_of_getElem? hl0
    have hVc := fun (ow : List Int) (hu : ∀ y ∈ ow, u32R y) st vo en H o bk vl h3 h4 h5 h6 => ih.V i rs ow c st vo en H x wv bk vl o (hes.all _ hcm) (fun u hu => hKE u ((usesE_mem hcm).1 u hu)) (fun u hu => hKE u ((usesE_mem hcm).2 u hu)) h3 h4 hu h5 h6
    rw [c.row_eq] at hVc
    obtain ⟨w, hw⟩ : ∃ w, w = ow.length := ⟨_, rfl⟩
    rw [← hw]
    refine con_of 251 [] Try.func70 rfl rfl rfl rfl ?_
    refine awp_seq_k fun K hK => ?_
    refine awp_region rfl ?_
    simp only [hr, hx, nxr, nrx, hg0, RR, seval]
    refine awpN_intro fun b5 hn5 => ?_
    have nb5_r : b5 ≠ r := fun e => by rw [e] at hn5; simp only [hr, nxr, nrx, RR, seval, reduceCtorEq] at hn5
    have nr_b5 : r ≠ b5 := fun e => nb5_r e.symm
    have nb5_x : b5 ≠ x := fun e => by rw [e] at hn5; simp only [hx, nxr, nrx, RR, seval, reduceCtorEq] at hn5
    have nx_b5 : x ≠ b5 := fun e => nb5_x e.symm
    simp only [hr, hx, nxr, nrx, nb5_r, nr_b5, nb5_x, nx_b5, hg0, RR, seval]
    refine hK _ _ ?_; clear hK K
    refine awp_seq_k fun K hK => ?_
    refine awp_region rfl ?_
    simp only [hr, hx, nxr, nrx, nb5_r, nr_b5, nb5_x, nx_b5, hg0, RR, seval]
    refine hK _ _ ?_; clear hK K
    refine awp_block ?_
    refine awp_seq_k fun K hK => ?_
    refine awp_region rfl ?_
    simp only [hg0, RR, seval]
    refine hK _ _ ?_; clear hK K
    refine awp_if false rfl (fun hc => by cases hc) (fun _ => ?_)
    refine awp_seq_k fun K hK => ?_
    refine awp_region rfl ?_
    simp only [hg0, RR, seval]
    refine hK _ _ ?_; clear hK K
    refine awp_if false rfl (fun hc => by cases hc) (fun _ => ?_)
    refine awp_seq_k fun K hK => ?_
    refine awp_region rfl ?_
    simp only [hg0, RR, seval]
    refine hK _ _ ?_; clear hK K
    refine awp_if false rfl (fun hc => by cases hc) (fun _ => ?_)
    refine awp_seq_k fun K hK => ?_
    refine awp_region rfl ?_
    simp only [hg0, RR, seval]
    refine hK _ _ ?_; clear hK K
    refine awp_if false rfl (fun hc => by cases hc) (fun _ => ?_)
    refine awp_seq_k fun K hK => ?_
    refine awp_region rfl ?_
    simp only [hg0, RR, seval]
    refine hK _ _ ?_; clear hK K
    refine awp_if true rfl (fun _ => ?_) (fun hc => by cases hc)
    refine awp_name fun F1 M1 hfr hH => ?_
    have g0 := hfr 0
    have g1 := hfr 1
    have g5 := hfr 5
    have gr := hH r
    have gx := hH x
    have gb5 := hH b5
    try simp only [hr, hx, nxr, nrx, nb5_r, nr_b5, nb5_x, nx_b5, hg0, RR, seval] at g0 g1 g5 gr gx gb5
    have hM := funext hH
    have hR0 := (hR.new hn5 _).same hH
    have hW0 := (hW.new hn5 _).same hH
    have hk0 : keepsJ r vv abs vo vo H M1 := by rw [hM]; exact (keepsJ.refl _ _ _ _ _).updN hn5 _
    have f0 := g0; clear g0
    have f1 := g1; clear g1
    have f5 := g5; clear g5
    have hr := gr; clear gr
    have hx := gx; clear gx
    have hb5 := gb5; clear gb5
    clear hfr hH
    have hT := jtick_con hj.cx hR0
    generalize hTT : tickR cx st = tt at h hT
    refine awp_seq_k fun K hK => ?_
    refine awp_region rfl ?_
    simp only [f0, hr, hx, hb5, nxr, nrx, nb5_r, nr_b5, nb5_x, nx_b5, hg0, RR, seval]
    refine awpC_tick hT (fun _ => trivial) fun H1 hne1 hR1 hk1 => ?_
    have hr := hR1.r
    have hx := hR0.keep hx (by decide) (by decide) hk1
    have hb5 := hR0.keep hb5 (by decide) (by decide) hk1
    have hW1 := hW0.keep hR0 hk1
    have hk01 := (hk0.trans hk1).w x wv
    have hc0 : (enR tt = 0 ∧ false = false ∧ restW cx n' rs c t ow tt.st = some o) ∨ (enR tt = 0 ∧ false = true ∧ o = .val (some 0, ow) tt.st) ∨ (enR tt ≠ 0 ∧ o = .fin (enR tt) tt.st) := by
      cases tt with
      | fin e s => exact .inr (.inr ⟨hne1 _ _ rfl, (Option.some.inj (show some (Rz.fin e s) = some o from h)).symm⟩)
      | val q s => exact .inl ⟨rfl, rfl, h⟩
    simp only [RR, seval]
    refine hK _ _ ?_; clear hK K
    refine awp_name fun F2 M2 hfr hH => ?_
    have g0 := hfr 0
    have g1 := hfr 1
    have g5 := hfr 5
    have gr := hH r
    have gx := hH x
    have gb5 := hH b5
    try simp only [f0, f1, f5, hr, hx, hb5, nxr, nrx, nb5_r, nr_b5, nb5_x, nx_b5, hg0, RR, seval] at g0 g1 g5 gr gx gb5
    have hM1 := funext hH
    have f0 := g0; clear g0
    have f1 := g1; clear g1
    have f5 := g5; clear g5
    have hr := gr; clear gr
    have hx := gx; clear gx
    have hb5 := gb5; clear gb5
    clear hfr hH
    refine awp_block ?_
    refine awp_while [0, 1, 5] (n') (fun d fr M => ∃ stk vok enk owk bkk vlk, d ≤ n' ∧ owk.length = w ∧ (∀ y ∈ owk, u32R y) ∧ u32R vlk ∧ (bkk = false → vlk = 0) ∧ RunJ p cx r vv abs stk vok enk M ∧ OwnW vv abs vok wv owk M ∧ M x = some (.rows 4 [[.int .i64 i, wv, .bool bkk, .int .u32 vlk]]) ∧ M b5 = some (.rows 5 [[.int .i64 5, .str s, .isl 5 (l.map Ex.row), .isl 5 (t.map Sm.row), .isl 5 (u.map Sm.row)]]) ∧ keepsW r vv abs vo vok x wv HX M ∧ ((enk = 0 ∧ bkk = false ∧ restW cx d rs c t owk stk = some o) ∨ (enk = 0 ∧ bkk = true ∧ o = .val (some vlk, owk) stk) ∨ (enk ≠ 0 ∧ o = .fin enk stk))) ⟨tt.st, vo, enR tt, ow, false, 0, Nat.le_refl _, hw.symm, hu, (by simp [u32R]), (fun _ => rfl), (by rw [hM1]; exact hR1), (by rw [hM1]; exact hW1), hx, hb5, (by rw [hM1, hHX]; exact hk01), hc0⟩ ?_
    rintro d F3 M3 ⟨stk, vok, enk, owk, bkk, vlk, hdn, hwk, huk, uvl, hbv, hRk, hOk, hx, hb5, hkk, hcase⟩ agx K1 hK1
    have f0 := (agx 0 rfl).trans f0
    have f1 := (agx 1 rfl).trans f1
    have f5 := (agx 5 rfl).trans f5
    have ag1 := agree.refl [0, 1, 5] F3
    clear agx
    have hr := hRk.r
    clear h hc0
    have hA : enk = 0 ∧ bkk = false → ∃ r1, evE cx d rs owk c stk = some r1 ∧ bindR (some r1) (fun x st => if x = 0 then some (Rz.val ((none : Option Int), owk) st) else bindR (evL cx d rs owk t st) fun r st => match r.1 with | some v => some (.val (some v, r.2) st) | none => evW cx d rs r.2 c t st) = some o := fun ⟨z1, z2⟩ => by
      rcases hcase with ⟨_, _, h⟩ | ⟨_, h, _⟩ | ⟨h, _⟩
      · unfold restW at h
        cases h1 : evE cx d rs owk c stk with
        | none => rw [h1] at h; cases h
        | some r1 => rw [h1] at h; exact ⟨r1, rfl, h⟩
      · rw [z2] at h; cases h
      · exact absurd z1 h
    have hVk := fun r1 (h1 : evE cx d rs owk c stk = some r1) (hen : enk = 0) => hVc owk huk stk vok enk _ r1 bkk vlk hRk hOk hx (.inl ⟨hen, evE_deep (Nat.le_succ_of_le hdn) h1⟩)
    have hen : enk = 0 ∨ ¬ enk = 0 := by by_cases h : enk = 0; exact .inl h; exact .inr h
    rcases hen with hen | hen <;> rcases Bool.eq_false_or_eq_true bkk with hbk | hbk
    all_goals
      refine awp_seq ?_
      refine awp_seq_k fun K hK => ?_
      refine awp_region rfl ?_
      simp only [f0, f1, f5, hr, hx, hb5, nxr, nrx, nb5_r, nr_b5, nb5_x, nx_b5, hg0, hen, hbk, RR, seval]
      all_goals try ((first | refine awpG_splitN (fun h => ?_) (fun h => ?_) | refine awpG_split (fun h => ?_) (fun h => ?_)) <;> simp only [h, f0, f1, f5, hr, hx, hb5, nxr, nrx, nb5_r, nr_b5, nb5_x, nx_b5, hg0, hen, hbk, RR, seval])
      all_goals try ((first | refine awpG_splitN (fun h => ?_) (fun h => ?_) | refine awpG_split (fun h => ?_) (fun h => ?_)) <;> simp only [h, f0, f1, f5, hr, hx, hb5, nxr, nrx, nb5_r, nr_b5, nb5_x, nx_b5, hg0, hen, hbk, RR, seval])
      all_goals try (obtain ⟨r1, h1, h2⟩ := hA ⟨hen, hbk⟩; refine awpC_J (hVk r1 h1 hen) (fun _ => trivial) fun w1 vo1 H1 uw1 hwv1 hne1 hR1 hk1 => ?_; have hr := hR1.r; have hx1 := hRk.keep hx (by decide) (by decide) hk1; have hx := hx1; have hb51 := hRk.keep hb5 (by decide) (by decide) hk1; have hb5 := hb51; have hW1 := hOk.keep hRk hk1; have hkk1 := hkk.trans (hk1.w x wv); simp only [f0, f1, f5, hr, hx, hb5, nxr, nrx, nb5_r, nr_b5, nb5_x, nx_b5, hg0, hen, hbk, RR, seval])
      all_goals
        refine hK _ _ ?_; clear hK K
        refine awp_if _ rfl (fun hc => ?_) (fun hc => ?_)
        · try (cases hc; done)
          all_goals
            have hw1 := hc; clear hc
            have hnz : ¬ w1 = 0 := by simpa using hw1
            obtain ⟨r2, hc2, hcases⟩ : ∃ r2, contJ (enR r1) r1.st (evL cx d rs owk t r1.st) r2 ∧ ((∃ x s1, r1 = .val x s1 ∧ bindR (some r2) (fun r st => match r.1 with | some v => some (Rz.val (some v, r.2) st) | none => evW cx d rs r.2 c t st) = some o) ∨ (∃ e s, r1 = .fin e s ∧ r2 = .fin e s ∧ o = .fin e s)) := by
              cases r1 with
              | fin e s => exact ⟨.fin e s, .inr ⟨hne1 e s rfl, rfl⟩, .inr ⟨e, s, rfl, rfl, (Option.some.inj (show some (Rz.fin e s) = some o from h2)).symm⟩⟩
              | val y s =>
                obtain rfl := hwv1 _ _ rfl
                simp only [bindR] at h2
                rw [if_neg hnz] at h2
                cases h3 : evL cx d rs owk t s with
                | none => rw [h3] at h2; cases h2
                | some r2 => rw [h3] at h2; exact ⟨r2, .inl ⟨rfl, h3⟩, .inl ⟨_, s, rfl, h2⟩⟩
            have hd1 : 1 ≤ d := by
              cases d with
              | zero => simp [evE] at h1
              | succ d => omega
            have hc2' : contJ (enR r1) r1.st (evL cx (n' + 1) rs owk t r1.st) r2 := by
              rcases hc2 with ⟨z1, z2⟩ | z
              · exact .inl ⟨z1, evL_deep (Nat.le_succ_of_le hdn) z2⟩
              · exact .inr z
            have hL := ih.L i rs owk t r1.st vo1 (enR r1) _ x wv bkk vlk r2 hth hKT hR1 hW1 huk hx uvl hbv (fun _ => hbk) hc2'
            rw [hwk] at hL
            refine awp_skip ?_; try simp only [RR]
            refine awp_block ?_
            refine awp_seq_k fun K hK => ?_
            refine awp_region rfl ?_
            simp only [f0, f1, f5, hr, hx, hb5, nxr, nrx, nb5_r, nr_b5, nb5_x, nx_b5, hg0, hen, hbk, RR, seval]
            refine awpC_T hL (fun _ => trivial) fun ow2 bk2 vl2 vo2 H2 g1 g2 g3 g4 g5 g6 g7 g8 g9 g10 => ?_
            have hr := g9.r
            have hb52 : H2 b5 = _ := hR1.keepW hW1 hb5 (by decide) (by decide) nb5_x g10
            have hx := g7
            have hb5 := hb52
            have hkk2 := hkk1.trans g10
            have hcase2 : (enR r2 = 0 ∧ bk2 = false ∧ evW cx d rs ow2 c t r2.st = some o) ∨ (enR r2 = 0 ∧ bk2 = true ∧ o = .val (some vl2, ow2) r2.st) ∨ (enR r2 ≠ 0 ∧ o = .fin (enR r2) r2.st) := by
              rcases hcases with ⟨y, s1, rfl, h3⟩ | ⟨e, s, rfl, rfl, h4⟩
              · cases r2 with
                | fin e s => exact .inr (.inr ⟨g6 _ _ rfl, (Option.some.inj (show some (Rz.fin e s) = some o from h3)).symm⟩)
                | val q s =>
                  obtain ⟨q1, q2⟩ := q
                  obtain ⟨z1, z2, z3⟩ := g5 _ _ rfl
                  simp only at z1 z2 z3
                  subst z1
                  cases q1 with
                  | none => exact .inl ⟨rfl, z2, h3⟩
                  | some v =>
                    simp only [Option.getD_some] at z3
                    subst z3
                    exact .inr (.inl ⟨rfl, z2, (Option.some.inj h3).symm⟩)
              · exact .inr (.inr ⟨g6 _ _ rfl, h4⟩)
            simp only [RR, seval]
            refine hK _ _ ?_; clear hK K
            have hen2 : enR r2 = 0 ∨ ¬ enR r2 = 0 := by by_cases h : enR r2 = 0; exact .inl h; exact .inr h
            rcases hen2 with hen2 | hen2 <;> rcases Bool.eq_false_or_eq_true bk2 with hbk2 | hbk2
            all_goals
              refine awp_seq_k fun K hK => ?_
              refine awp_region rfl ?_
              simp only [f0, f1, hr, hx, hb5, nxr, nrx, nb5_r, nr_b5, nb5_x, nx_b5, hg0, hen, hbk, hen2, hbk2, RR, seval]
              repeat' ((first | refine awpG_splitN (fun h => ?_) (fun h => ?_) | refine awpG_split (fun h => ?_) (fun h => ?_)) <;> simp only [h, f0, f1, f5, hr, hx, hb5, nxr, nrx, nb5_r, nr_b5, nb5_x, nx_b5, hg0, hen, hbk, hen2, hbk2, RR, seval])
              all_goals
                refine hK _ _ ?_; clear hK K
                refine awp_if _ rfl (fun hc32 => ?_) (fun hc32 => ?_)
                · try (cases hc32; done)
                  all_goals
                    have hE : evW cx d rs ow2 c t r2.st = some o := by
                      rcases hcase2 with ⟨_, _, h⟩ | ⟨_, h, _⟩ | ⟨h, _⟩
                      · exact h
                      · rw [hbk2] at h; cases h
                      · exact absurd hen2 h
                    obtain ⟨d', hd'⟩ : ∃ d', d = d' + 1 := ⟨d - 1, by omega⟩
                    have hd2 : d - 1 = d' := by omega
                    rw [hd', evW_succ] at hE
                    have g9' := g9
                    rw [hen2] at g9'
                    have hT2 := jtick_con hj.cx g9'
                    generalize hTT2 : tickR cx r2.st = tt2 at hE hT2
                    refine awp_region rfl ?_
                    simp only [f0, hr, hx, hb5, nxr, nrx, nb5_r, nr_b5, nb5_x, nx_b5, hg0, hen, hbk, hen2, hbk2, RR, seval]
                    refine awpC_tick hT2 (fun _ => trivial) fun H3 hne3 hR3 hk3 => ?_
                    have hx3 := g9'.keep hx (by decide) (by decide) hk3
                    have hb53 := g9'.keep hb5 (by decide) (by decide) hk3
                    have hW3 := g8.keep g9' hk3
                    have hkk3 := hkk2.trans (hk3.w x wv)
                    have hcase3 : (enR tt2 = 0 ∧ bk2 = false ∧ restW cx (d - 1) rs c t ow2 tt2.st = some o) ∨ (enR tt2 = 0 ∧ bk2 = true ∧ o = .val (some vl2, ow2) tt2.st) ∨ (enR tt2 ≠ 0 ∧ o = .fin (enR tt2) tt2.st) := by
                      rw [hd2]
                      cases tt2 with
                      | fin e s => exact .inr (.inr ⟨hne3 _ _ rfl, (Option.some.inj (show some (Rz.fin e s) = some o from hE)).symm⟩)
                      | val q s => exact .inl ⟨rfl, hbk2, hE⟩
                    obtain ⟨st3, hst3⟩ : ∃ s, s = tt2.st := ⟨_, rfl⟩
                    obtain ⟨en3, hen3⟩ : ∃ e, e = enR tt2 := ⟨_, rfl⟩
                    rw [← hst3, ← hen3] at hR3 hcase3
                    simp only [RR, seval]
                    refine hK1 (d - 1) _ _ (by omega) ⟨st3, vo2, en3, ow2, bk2, vl2, (by omega), g1, g2, g3, g4, hR3, hW3, hx3, hb53, hkk3, hcase3⟩ (by repeat (first | exact ag1 | refine agree.upd rfl ?_))
                · try (cases hc32; done)
                  all_goals
                    have hx3 := hx
                    have hb53 := hb5
                    have hW3 := g8
                    have hR3 := g9
                    have hkk3 := hkk2
                    have hcase3 : (enR r2 = 0 ∧ bk2 = false ∧ restW cx (d - 1) rs c t ow2 r2.st = some o) ∨ (enR r2 = 0 ∧ bk2 = true ∧ o = .val (some vl2, ow2) r2.st) ∨ (enR r2 ≠ 0 ∧ o = .fin (enR r2) r2.st) := by
                      rcases hcase2 with ⟨z1, z2, _⟩ | z | z
                      · exfalso
                        first | exact hen2 z1 | (rw [hbk2] at z2; cases z2) | (rw [hen2, hbk2] at *; simp_all)
                      · exact .inr (.inl z)
                      · exact .inr (.inr z)
                    obtain ⟨st3, hst3⟩ : ∃ s, s = r2.st := ⟨_, rfl⟩
                    obtain ⟨en3, hen3⟩ : ∃ e, e = enR r2 := ⟨_, rfl⟩
                    rw [← hst3, ← hen3] at hR3 hcase3
                    refine awp_skip ?_; try simp only [RR]
                    refine hK1 (d - 1) _ _ (by omega) ⟨st3, vo2, en3, ow2, bk2, vl2, (by omega), g1, g2, g3, g4, hR3, hW3, hx3, hb53, hkk3, hcase3⟩ (by repeat (first | exact ag1 | refine agree.upd rfl ?_))
        · try (cases hc; done)
          all_goals
            have hw1 := hc; clear hc
            rw [hHX] at hkk
            try rw [hHX] at hkk1
            refine awp_exit ?_; simp only [RR, seval]
            try simp only [bodyQ, aresult, ares, f0, f1, f5, hr, hx, hb5, nxr, nrx, nb5_r, nr_b5, nb5_x, nx_b5, hg0, hen, hbk, RR, seval]
            first
              | (have hz : w1 = 0 := by simpa using hw1
                 have hj2 := jexit hwv1 hne1 h2 hbk (hbv hbk) hz hx1 hW1 hR1 hkk1
                 exact Gives.run ⟨owk, bkk, vlk, vo1, rfl, hwk, huk, uvl, hbv, hj2⟩)
              | (rcases hcase with ⟨z1, z2, _⟩ | ⟨z1, z2, z3⟩ | ⟨z1, z2⟩
                 · exfalso
                   first | exact hen z1 | (rw [hbk] at z2; cases z2)
                 · subst z3; exact Gives.run ⟨owk, bkk, vlk, vok, rfl, hwk, huk, uvl, hbv, (fun _ _ e => by cases e; exact ⟨rfl, z2, rfl⟩), (fun _ _ e => by cases e), hx, hOk, (by rw [z1] at hRk; exact hRk), hkk⟩
                 · subst z2; exact Gives.run ⟨owk, bkk, vlk, vok, rfl, hwk, huk, uvl, hbv, (fun _ _ e => by cases e), (fun _ _ h => by cases h; exact z1), hx, hOk, hRk, hkk⟩)
theorem jstmt_step (ih : PrgJ p cx r vv abs n) (hj : JOk p cx) (i : Nat) (rs : Str → Bool × Int) (ow : List Int) (e : Sm) (st : RS) (vo : AV) (H : Hp) (x : Nat) (wv : AV) (o : Rz (Option Int × List Int)) (he : e.ok) (hU : ∀ u ∈ useS e, UJ p i rs u) (hKE : ∀ u ∈ usesE e.es, UJ p i rs u) (hKT : ∀ u ∈ usesS e.thn, UJ p i rs u) (hKU : ∀ u ∈ usesS e.els, UJ p i rs u) (hR : RunJ p cx r vv abs st vo 0 H) (hW : OwnW vv abs vo wv ow H) (hu : ∀ y ∈ ow, u32R y) (hx : H x = some (.rows 4 [[.int .i64 i, wv, .bool false, .int .u32 0]])) (h : evS cx (n + 1) rs ow e st = some o) :
    Con env 70 [.ptr 11 r 0 0, .ptr 4 x 0 0, .agg e.row] H (postT p cx r vv abs vo x i wv ow.length H o) := by
  by_cases k1 : e.kind = 1
  · exact jset_step ih hj i rs ow e k1 st vo H x wv o he hU hKE hKT hKU hR hW hu hx h
  by_cases k2 : e.kind = 2
  · exact jstore_step ih hj i rs ow e k2 st vo H x wv o he hU hKE hKT hKU hR hW hu hx h
  by_cases k3 : e.kind = 3
  · exact jput_step ih hj i rs ow e k3 st vo H x wv o he hU hKE hKT hKU hR hW hu hx h
  by_cases k4 : e.kind = 4
  · exact jif_step ih hj i rs ow e k4 st vo H x wv o he hU hKE hKT hKU hR hW hu hx h
  by_cases k5 : e.kind = 5
  · exact jwhile_step ih hj i rs ow e k5 st vo H x wv o he hU hKE hKT hKU hR hW hu hx h
  by_cases k6 : e.kind = 6
  · exact jcallS_step ih hj i rs ow e k6 st vo H x wv o he hU hKE hKT hKU hR hW hu hx h
  by_cases k7 : e.kind = 7
  · exact jret_step ih hj i rs ow e k7 st vo H x wv o he hU hKE hKT hKU hR hW hu hx h
  · exact jskip_step ih hj i rs ow e ⟨k1, k2, k3, k4, k5, k6, k7⟩ st vo H x wv o he hU hKE hKT hKU hR hW hu hx h
/-- all of the judge's functions, at any depth -/
theorem prgJ (hj : JOk p cx) : ∀ n : Nat, PrgJ p cx r vv abs n
  | 0 => by
    refine ⟨?_, ?_, ?_, ?_⟩
    · intro i rs ow e st vo en H x wv bk vl o he hU hK hR hW hu hx h
      rcases h with ⟨_, h⟩ | ⟨h1, h2⟩
      · simp [evE] at h
      · exact jexpr_step (n := 0) (fun h => absurd h h1) hj.cx i rs ow e st vo H x wv bk vl o he hU hK hR hW hu hx (.inr ⟨h1, h2⟩)
    · intro i rs ow s l st vo H x wv bk vl o hl hU hK hR hW hu hx h
      simp [evC] at h
    · intro i rs ow e st vo H x wv o he hU h1 h2 h3 hR hW hu hx h
      simp [evS] at h
    · intro i rs ow l st vo en H x wv bk vl o hl hU hR hW hu hx uvl hbv hb0 h
      rcases h with ⟨_, h⟩ | ⟨h1, h2⟩
      · simp [evL] at h
      · exact jstmts_step (n := 0) (fun h => absurd h h1) i rs ow l st vo H x wv bk vl o hl hU hR hW hu hx uvl hbv hb0 (.inr ⟨h1, h2⟩)
  | n + 1 => by
    have ih := prgJ hj n
    refine ⟨?_, ?_, ?_, ?_⟩
    · intro i rs ow e st vo en H x wv bk vl o he hU hK hR hW hu hx h
      exact jexpr_step (fun _ => ih) hj.cx i rs ow e st vo H x wv bk vl o he hU hK hR hW hu hx h
    · intro i rs ow s l st vo H x wv bk vl o hl hU hK hR hW hu hx h
      exact jcall_step ih hj i rs ow s l st vo H x wv bk vl o hl hU hK hR hW hu hx h
    · intro i rs ow e st vo H x wv o he hU h1 h2 h3 hR hW hu hx h
      exact jstmt_step ih hj i rs ow e st vo H x wv o he hU h1 h2 h3 hR hW hu hx h
    · intro i rs ow l st vo en H x wv bk vl o hl hU hR hW hu hx uvl hbv hb0 h
      exact jstmts_step (fun _ => ih) i rs ow l st vo H x wv bk vl o hl hU hR hW hu hx uvl hbv hb0 h
end
end Go.Proofs.Ytlokndnkpleegaa

namespace Go.Al
theorem RunJ.seal {p : Pg} {cx : Cx} {r : Nat} {vv vo : AV} {abs : List Nat} {st : RS} {en : Int} {H : Hp} {E : Env} {N : Nat} {Q : APost} {c : Code} {fr : Fr} (hR : RunJ p cx r vv abs st vo en H)
    (h : ∀ fr' H', (∀ j, flatV (fr j) = true → fr' j = fr j) → H' r = some (.rows 11 [[.isl 1 (p.vars.map strRow), .isl 2 (p.arrs.map Ar.row), .isl 5 (p.funs.map Fu.row), .str cx.inp, .int .i64 cx.fuel, vv, .isl 1 (arrRows abs st.arrs), .isl 1 (st.out.map rowB), .int .i64 st.read, .int .i64 st.ticks, .int .i64 en]]) →
      (∀ b s l, b ≠ r → off vo b → (∀ r ∈ l, ∀ x ∈ r, flatV x = true) → H b = some (.rows s l) → H' b = some (.rows s l)) → awp E N c Q fr' H') : awp E N c Q fr H := by
  have h0 : H r = some (.rows 11 [[AV.isl 1 (p.vars.map strRow), .isl 2 (p.arrs.map Ar.row), .isl 5 (p.funs.map Fu.row), .str cx.inp, .int .i64 cx.fuel, vv, .isl 1 (arrRows abs st.arrs)] ++ vo :: [.int .i64 st.read, .int .i64 st.ticks, .int .i64 en]]) := hR.r
  refine awp_sealP hR.o h0 (fun x hx => ?_) (fun x hx => ?_) (hR.o.offsz hR.r (by decide)) fun fr' H' h1 h2 h3 => h fr' H' (fun j hj => h1 j (noO_flat hj)) h2 fun b s l g1 g2 g3 g4 => h3 b s l g1 g2 (fun r hr x hx => noO_flat (g3 r hr x hx)) g4
  · simp only [List.mem_cons, List.not_mem_nil, or_false] at hx
    rcases hx with rfl | rfl | rfl | rfl | rfl | rfl | rfl
    · exact noO_flat rfl
    · exact noO_flat rfl
    · exact noO_flat rfl
    · exact noO_flat rfl
    · exact noO_flat rfl
    · exact fun s b n e => hR.ov s b n e
    · exact noO_flat rfl
  · simp only [List.mem_cons, List.not_mem_nil, or_false] at hx
    rcases hx with rfl | rfl | rfl <;> exact noO_flat rfl
end Go.Al
namespace Go.Proofs.Ytlokndnkpleegaa
open Go.Al
/-- a sound program's names, found by the judge -/
theorem sound_uses {p : Pg} (hp : p.few) (h : soundT p = 0) (j : Nat) (g : Fu) (hg : p.funs[j]? = some g) (u : Us) (hu : u ∈ usesS g.body) : UJ p j (rsP (outP p) (inP g)) u := by
  obtain ⟨hr, hgl, hn, hm⟩ := sound_all h
  simp only [namesB, Bool.and_eq_true] at hn
  simp only [numsB, Bool.and_eq_true] at hm
  have g1 := (namesFrom_get p p.funs 0 hn.2 j g hg).2
  have g2 := nums_get p p.funs 0 hm.1 j g hg
  rw [Nat.zero_add, List.all_eq_true] at g1 g2
  exact ⟨Find_con p hp j (List.getElem?_eq_some_iff.1 hg).1 u.name, (rs_find hg u.name).1, g1 u hu, g2 u hu⟩
theorem sound_last {p : Pg} (h : soundT p = 0) (g : Fu) (hg : p.funs[p.funs.length - 1]? = some g) : g.params.length = 0 := by
  obtain ⟨_, _, _, hm⟩ := sound_all h
  simp only [numsB, Bool.and_eq_true, lastB] at hm
  have := hm.2
  rw [hg] at this
  simp only [Bool.and_eq_true, decide_eq_true_eq] at this
  exact this.1.2
theorem cx_ok {p : Pg} (hp : RunOk p) (inp : Str) (hin : inp.length ≤ 2000000) (fu : Int) (hfu : i64R fu) : CxOk (cxP p inp fu) := by
  have hfl : ((cxP p inp fu).fuel : Int) = if fu < 0 then 0 else fu := by
    show (((if fu < 0 then 0 else fu).toNat : Nat) : Int) = _
    split <;> omega
  refine ⟨hin, by have := hfu.2; split at hfl <;> omega, fun f hf => ?_, fun f hf => ?_⟩
  · obtain ⟨g, hg, rfl⟩ := List.mem_map.1 hf
    have := hp.fs g hg
    show g.params.length + g.locs.length ≤ _
    omega
  · obtain ⟨g, hg, rfl⟩ := List.mem_map.1 hf
    exact (hp.ok.funs g hg).body
set_option maxHeartbeats 8000000 in
theorem JRun_con (p : Pg) (hp : RunOk p) (huse : ∀ (j : Nat) g, p.funs[j]? = some g → ∀ u ∈ usesS g.body, UJ p j (rsP (outP p) (inP g)) u) (hlst : ∀ g, p.funs[p.funs.length - 1]? = some g → g.params.length = 0) (inp : Str) (hin : inp.length ≤ 2000000) (fu : Int) (hfu : i64R fu) {n : Nat} {e : Int} {out : Str} {t : Nat} (hrun : runR (cxP p inp fu) n p.vars.length (p.arrs.map fun a => a.size.toNat) = some (e, out, t)) :
    PCon env 15 [p.av, .str inp, .int .i64 fu] (resV e out t) := by
  have hfl : ((cxP p inp fu).fuel : Int) = if fu < 0 then 0 else fu := by
    show (((if fu < 0 then 0 else fu).toNat : Nat) : Int) = _
    split <;> omega
  have hx := cx_ok hp inp hin fu hfu
  have hj : JOk p (cxP p inp fu) := ⟨rfl, hx, huse, hp.f⟩
  have hlast : p.funs.length - 1 < p.funs.length := by have := hp.f1; omega
  have hg0 := List.getElem?_eq_getElem hlast
  have hgs := hp.fs _ (List.getElem_mem hlast)
  have hpar := hlst _ hg0
  generalize p.funs[p.funs.length - 1] = g at hg0 hgs hpar
  have hmain : (cxP p inp fu).main = some (cfP (outP p) g) := by
    show (p.funs.map (cfP (outP p)))[(p.funs.map (cfP (outP p))).length - 1]? = _
    rw [List.length_map, List.getElem?_map, hg0]; rfl
  obtain ⟨ro, hev, hend⟩ : ∃ o, evL (cxP p inp fu) n (rsP (outP p) (inP g)) ([] ++ List.replicate g.locs.length 0) g.body (RS.init p.vars.length (p.arrs.map fun a => a.size.toNat)) = some o ∧ endR o = (e, out, t) := by
    unfold runR at hrun
    rw [hmain] at hrun
    simp only [Option.bind_some, Option.map_eq_some_iff] at hrun
    have hw : (cfP (outP p) g).words = g.locs.length := by show g.params.length + g.locs.length = _; omega
    rw [hw] at hrun
    exact hrun
  clear hrun hmain
  have hinit : RS.init p.vars.length (p.arrs.map fun a => a.size.toNat) = ⟨List.replicate p.vars.length 0, p.arrs.map zz, 0, [], 0⟩ := by simp [RS.init, zz, List.map_map]
  rw [hinit] at hev
  have hB := fun (r : Nat) (vv : AV) abs H hR => jbody_con (vv := vv) (abs := abs) (prgJ (r := r) hj n) hj (p.funs.length - 1) g hg0 [] _ .nsl H .nsl ro hR OwnW.nil (fun y hy => by cases hy) (by simp) (by omega) hev
  have hsz := hp.sz
  have hvl := hp.v
  have hal := hp.a
  have hffl := hp.f
  have hff1 := hp.f1
  have e2 : IntKind.wrap .i64 ((p.funs.length : Int) - 1) = ((p.funs.length - 1 : Nat) : Int) := by rw [IntWalk.i64_in _ (by omega)]; omega
  have e3 : decide ((p.funs.length : Int) = 0) = false := decide_eq_false (by omega)
  have e4 : (4 : Int) * (p.vars.length : Int) ≤ 281474976710656 := by omega
  obtain ⟨vs, aa, fs⟩ := p
  simp only at *
  obtain ⟨cx, hcx⟩ : ∃ cx, cx = cxP ⟨vs, aa, fs⟩ inp fu := ⟨_, rfl⟩
  have hci : cx.inp = inp := by rw [hcx]; rfl
  rw [← hcx] at hev hB hfl hx
  have hav : Pg.av ⟨vs, aa, fs⟩ = .agg [.isl 1 (vs.map strRow), .isl 2 (aa.map Ar.row), .isl 5 (fs.map Fu.row)] := rfl
  rw [hav]
  have hin2 := hx.inp
  refine con_of 76 [.cell 6 30] Try.func15 rfl rfl rfl rfl ?_
  refine awp_seq_k fun K hK => ?_
  refine awp_region rfl ?_
  simp only [e2, e3, e4, List.length_map, RR, seval]
  refine awpN_intro fun b3 hn3 => ?_
  simp only [e2, e3, e4, List.length_map, RR, seval]
  refine awpN_intro fun b6 hn6 => ?_
  have nb6_b3 : b6 ≠ b3 := fun e => by rw [e] at hn6; simp only [RR, seval, reduceCtorEq] at hn6
  have nb3_b6 : b3 ≠ b6 := fun e => nb6_b3 e.symm
  simp only [nb6_b3, nb3_b6, e2, e3, e4, List.length_map, RR, seval]
  refine hK _ _ ?_; clear hK K
  refine awp_seq ?_
  refine awp_seq_k fun K hK => ?_
  refine awp_region rfl ?_
  simp only [nb6_b3, nb3_b6, e2, e3, e4, List.length_map, RR, seval]
  refine hK _ _ ?_; clear hK K
  refine awp_if false rfl (fun hc => by cases hc) (fun _ => ?_)
  refine awp_skip ?_; try simp only [RR]
  refine awp_seq ?_
  refine awp_seq_k fun K hK => ?_
  refine awp_region rfl ?_
  simp only [e2, e3, e4, List.length_map, RR, seval]
  refine hK _ _ ?_; clear hK K
  refine awp_name fun F1 M1 hfr hH => ?_
  have g1 := hfr 1
  have g2 := hfr 2
  have g3 := hfr 3
  have g6 := hfr 6
  have g15 := hfr 15
  have gb3 := hH b3
  have gb6 := hH b6
  try simp only [nb6_b3, nb3_b6, e2, e3, e4, List.length_map, RR, seval] at g1 g2 g3 g6 g15 gb3 gb6
  have f1 := g1; clear g1
  have f2 := g2; clear g2
  have f3 := g3; clear g3
  have f6 := g6; clear g6
  have f15 := g15; clear g15
  have hb3 := gb3; clear gb3
  have hb6 := gb6; clear gb6
  clear hfr hH
  refine awp_cutP (fun fr M => agree [1, 3, 6] F1 fr ∧ M b3 = M1 b3 ∧ M b6 = M1 b6 ∧ fr 2 = .int .i64 (cx.fuel : Int)) (fun KC3 hKC3 => ?_) ?_
  · have agC3 := agree.refl [1, 3, 6] F1
    have eC3_b3 : M1 b3 = M1 b3 := rfl
    have eC3_b6 : M1 b6 = M1 b6 := rfl
    refine awp_if _ (by first | rfl | exact f15) (fun hc3 => ?_) (fun hc3 => ?_)
    · have hfz : (cx.fuel : Int) = 0 := by rw [hfl, if_pos (of_decide_eq_true hc3)]
      refine awp_region rfl ?_
      simp only [e2, e3, e4, List.length_map, RR, seval]
      refine hKC3 _ _ ⟨(by repeat (first | exact agC3 | refine agree.upd rfl ?_)), (by first | exact eC3_b3 | (simp only [nb6_b3, nb3_b6, upd_app, seval]; first | done | exact eC3_b3)), (by first | exact eC3_b6 | (simp only [nb6_b3, nb3_b6, upd_app, seval]; first | done | exact eC3_b6)), (by rw [hfz]; first | rfl | exact f2)⟩
    · have hfz : (cx.fuel : Int) = fu := by rw [hfl, if_neg (of_decide_eq_false hc3)]
      refine awp_skip ?_; try simp only [RR]
      refine hKC3 _ _ ⟨(by repeat (first | exact agC3 | refine agree.upd rfl ?_)), (by first | exact eC3_b3 | (simp only [nb6_b3, nb3_b6, upd_app, seval]; first | done | exact eC3_b3)), (by first | exact eC3_b6 | (simp only [nb6_b3, nb3_b6, upd_app, seval]; first | done | exact eC3_b6)), (by rw [hfz]; first | rfl | exact f2)⟩
  rintro F2 M2 ⟨agx, gb3, gb6, f2⟩
  have f1 := (agx 1 rfl).trans f1
  have f3 := (agx 3 rfl).trans f3
  have f6 := (agx 6 rfl).trans f6
  have hb3 := gb3.trans hb3
  have hb6 := gb6.trans hb6
  clear agx
  clear gb3
  clear gb6
  simp only [RR, seval]
  refine awp_seq_k fun K hK => ?_
  refine awp_region_draw2 (fun x => x ≠ b3 ∧ x ≠ b6) [(0, 0), (1, 3), (2, 3), (3, 3), (4, 1), (5, 3), (6, 1), (7, 3), (8, 1), (9, 3)] [] draws (by kernel_rfl) rfl rfl ?_
  simp only [emitF, markOf, EM, f1, f3, f2, hb3, hb6, nb6_b3, nb3_b6, e2, e3, e4, List.length_map, RR, seval]
  refine awpN_intro fun b22 hn22 => ?_
  have nb22_b3 : b22 ≠ b3 := fun e => by rw [e] at hn22; simp only [hb3, nb6_b3, nb3_b6, RR, seval, reduceCtorEq] at hn22
  have nb3_b22 : b3 ≠ b22 := fun e => nb22_b3 e.symm
  have nb22_b6 : b22 ≠ b6 := fun e => by rw [e] at hn22; simp only [hb6, nb6_b3, nb3_b6, RR, seval, reduceCtorEq] at hn22
  have nb6_b22 : b6 ≠ b22 := fun e => nb22_b6 e.symm
  simp only [emitF, markOf, EM, f1, f3, f2, hb3, hb6, nb6_b3, nb3_b6, nb22_b3, nb3_b22, nb22_b6, nb6_b22, e2, e3, e4, List.length_map, RR, seval]
  refine awpN_intro fun b24 hn24 => ?_
  have nb24_b3 : b24 ≠ b3 := fun e => by rw [e] at hn24; simp only [hb3, nb6_b3, nb3_b6, nb22_b3, nb3_b22, RR, seval, reduceCtorEq] at hn24
  have nb3_b24 : b3 ≠ b24 := fun e => nb24_b3 e.symm
  have nb24_b6 : b24 ≠ b6 := fun e => by rw [e] at hn24; simp only [hb6, nb6_b3, nb3_b6, nb22_b6, nb6_b22, RR, seval, reduceCtorEq] at hn24
  have nb6_b24 : b6 ≠ b24 := fun e => nb24_b6 e.symm
  have nb24_b22 : b24 ≠ b22 := fun e => by rw [e] at hn24; simp only [nb22_b3, nb3_b22, nb22_b6, nb6_b22, RR, seval, reduceCtorEq] at hn24
  have nb22_b24 : b22 ≠ b24 := fun e => nb24_b22 e.symm
  simp only [emitF, markOf, EM, f1, f3, f2, hb3, hb6, nb6_b3, nb3_b6, nb22_b3, nb3_b22, nb22_b6, nb6_b22, nb24_b3, nb3_b24, nb24_b6, nb6_b24, nb24_b22, nb22_b24, e2, e3, e4, List.length_map, RR, seval]
  refine hK _ _ ?_; clear hK K
  refine awp_seq ?_
  refine awp_seq_k fun K hK => ?_
  refine awp_region rfl ?_
  simp only [e2, e3, e4, List.length_map, RR, seval]
  refine hK _ _ ?_; clear hK K
  refine awp_name fun F3 M3 hfr hH => ?_
  have g3 := hfr 3
  have g6 := hfr 6
  have g7 := hfr 7
  have g8 := hfr 8
  have gb3 := hH b3
  have gb6 := hH b6
  have gb22 := hH b22
  have gb24 := hH b24
  try simp only [f1, f3, f6, f2, hb3, hb6, nb6_b3, nb3_b6, nb22_b3, nb3_b22, nb22_b6, nb6_b22, nb24_b3, nb3_b24, nb24_b6, nb6_b24, nb24_b22, nb22_b24, e2, e3, e4, List.length_map, RR, seval] at g3 g6 g7 g8 gb3 gb6 gb22 gb24
  have f3 := g3; clear g3
  have f6 := g6; clear g6
  have f7 := g7; clear g7
  have f8 := g8; clear g8
  have hb3 := gb3; clear gb3
  have hb6 := gb6; clear gb6
  have hb22 := gb22; clear gb22
  have hb24 := gb24; clear gb24
  clear hfr hH
  refine awp_block ?_
  refine awp_each [3, 6, 7] (aa.length) (fun k fr M => fr 8 = .int .i64 (k : Nat) ∧ M b3 = M3 b3 ∧ M b6 = M3 b6 ∧ M b22 = M3 b22 ∧ ∃ va bs, M b24 = some (.rows 11 [[.isl 1 (vs.map strRow), .isl 2 (aa.map Ar.row), .isl 5 (fs.map Fu.row), .str inp, .int .i64 cx.fuel, .osl 1 b22 vs.length, va, .nsl, .int .i64 0, .int .i64 0, .int .i64 0]]) ∧ ArrH b3 b22 bs ((aa.take k).map zz) va M) ⟨f8, rfl, rfl, rfl, .nsl, [], hb24, ⟨rfl, .inl ⟨rfl, rfl⟩, (fun i b l h => by simp at h), List.nodup_nil, (by simp), (by simp), (fun _ _ h => by cases h), (fun _ _ h => by cases h), (fun b hb => by simp at hb)⟩⟩ ?_
  rintro k F4 M4 hk0 ⟨fx, gb3, gb6, gb22, va, bs, hb24, hA⟩ agx K0 hK0
  have f3 := (agx 3 rfl).trans f3
  have f6 := (agx 6 rfl).trans f6
  have f7 := (agx 7 rfl).trans f7
  have f8 := fx; clear fx
  have hb3 := gb3.trans hb3
  have hb6 := gb6.trans hb6
  have hb22 := gb22.trans hb22
  have ag0 := agree.refl [3, 6, 7] F4
  have e0_b3 := gb3; clear gb3
  have e0_b6 := gb6; clear gb6
  have e0_b22 := gb22; clear gb22
  clear agx
  refine awp_seq ?_
  refine awp_seq_k fun K hK => ?_
  refine awp_region rfl ?_
  simp only [f3, f8, hb3, hb6, hb22, hb24, nb6_b3, nb3_b6, nb22_b3, nb3_b22, nb22_b6, nb6_b22, nb24_b3, nb3_b24, nb24_b6, nb6_b24, nb24_b22, nb22_b24, e2, e3, e4, List.length_map, RR, seval]
  refine hK _ _ ?_; clear hK K
  refine awp_if _ rfl (fun hc => ?_) (fun hc => ?_)
  · have hlt0 : k < aa.length := by have := of_decide_eq_true hc; omega
    clear hc
    have hga := List.getElem?_eq_getElem hlt0
    have htk : aa.take (k + 1) = aa.take k ++ [aa[k]] := List.take_succ_eq_append_getElem hlt0
    have hsa := hsz _ (List.getElem_mem hlt0)
    have hlen : bs.length ≤ 10000 := by rw [hA.l, List.length_map, List.length_take]; omega
    generalize aa[k] = a at hga htk hsa
    have hg := getA hga
    have z0 := hsa.1
    have z1 : (4 : Int) * a.size ≤ 281474976710656 := by omega
    refine awp_skip ?_; try simp only [RR]
    refine awp_seq ?_
    refine awp_block ?_
    have hown := hA.o
    have ho3 := hA.o7
    have ho22 := hA.ov
    refine awp_region_draw2 (fun x => x ≠ b3 ∧ x ≠ b24) [(0, 3), (1, 3), (2, 3), (3, 3), (4, 0), (5, 3), (6, 1), (7, 3), (8, 3), (9, 3), (10, 1), (11, 1), (12, 2), (13, 1), (14, 3), (15, 3)] [(16, 1)] draws (by kernel_rfl) rfl rfl ?_
    simp only [emitF, markOf, EM, f3, f6, f7, f8, hb3, hb6, hb22, hb24, nb6_b3, nb3_b6, nb22_b3, nb3_b22, nb22_b6, nb6_b22, nb24_b3, nb3_b24, nb24_b6, nb6_b24, nb24_b22, nb22_b24, e2, e3, e4, List.length_map, hg, z0, z1, RR, seval]
    refine awpN_intro fun b43 hn43 => ?_
    have n24 : b24 ≠ b43 := fun e => by rw [e, hn43] at hb24; cases hb24
    have n3 : b3 ≠ b43 := fun e => by rw [e, hn43] at hb3; cases hb3
    simp only [emitF, markOf, EM, f3, f6, f7, f8, hb3, hb6, hb22, hb24, nb6_b3, nb3_b6, nb22_b3, nb3_b22, nb22_b6, nb6_b22, nb24_b3, nb3_b24, nb24_b6, nb6_b24, nb24_b22, nb22_b24, e2, e3, e4, List.length_map, hg, z0, z1, RR, seval]
    have hzr : List.replicate a.size.toNat [AV.int .u32 0] = (zz a).map rowU := by simp [zz, rowU]
    have hzl : (zz a).length = a.size.toNat := by simp [zz]
    rw [hzr]
    refine awpA_ownF (hown.upd hn43 _) (by have := arrRows_len bs ((aa.take k).map zz) hA.l; rw [this, List.length_map, List.length_take]; simp only [List.length_cons, List.length_nil]; omega) (fun b e => ⟨fun c => ?_, fun c => ?_⟩) fun v' H' own' hk' hg' => ?_
    · subst c; exact hown.offsz hb3 (by decide) _ _ e
    · subst c; exact hown.offsz hb24 (by decide) _ _ e
    have hce := own'.cells
    have hoe := own'.one1
    have hb24' := hk' b24 _ (by rw [upd_ne _ _ n24]; exact hb24) (hown.offsz hb24 (by decide) _ _)
    have hb3' := hk' b3 _ (by rw [upd_ne _ _ n3]; exact hb3) (hown.offsz hb3 (by decide) _ _)
    have hb6' := hk' b6 _ (by rw [upd_ne _ _ (fun e => by rw [e, hn43] at hb6; cases hb6)]; exact hb6) (hown.offsz hb6 (by decide) _ _)
    have hb22' := hk' b22 _ (by rw [upd_ne _ _ (fun e => by rw [e, hn43] at hb22; cases hb22)]; exact hb22) (ho22 _ _)
    have e0_b3 := (hb3'.trans hb3.symm).trans e0_b3
    have e0_b6 := (hb6'.trans hb6.symm).trans e0_b6
    have e0_b22 := (hb22'.trans hb22.symm).trans e0_b22
    rw [← hzl] at own'
    have hA' := hA.snoc (l := zz a) hn43 (by rw [hb3]; exact Option.some_ne_none _) (by rw [hb22]; exact Option.some_ne_none _) own' hk' hg' hb24' (.rows 11 [[.isl 1 (vs.map strRow), .isl 2 (aa.map Ar.row), .isl 5 (fs.map Fu.row), .str inp, .int .i64 cx.fuel, .osl 1 b22 vs.length, v', .nsl, .int .i64 0, .int .i64 0, .int .i64 0]])
    simp only [hce, hoe, Option.bind_some, List.drop, hb24', f3, f6, f7, f8, hb3, hb6, hb22, hb24, nb6_b3, nb3_b6, nb22_b3, nb3_b22, nb22_b6, nb6_b22, nb24_b3, nb3_b24, nb24_b6, nb6_b24, nb24_b22, nb22_b24, e2, e3, e4, List.length_map, hg, z0, z1, RR, seval]
    refine awp_region rfl ?_
    simp only [f8, e2, e3, e4, List.length_map, hg, z0, z1, RR, seval]
    try rw [IntWalk.i64_in _ (by omega)]
    refine hK0 _ _ hlt0 ⟨by first | rfl | (simp only [upd_app, seval]; rfl), (by first | exact e0_b3 | (simp only [nb6_b3, nb3_b6, nb22_b3, nb3_b22, nb22_b6, nb6_b22, nb24_b3, nb3_b24, nb24_b6, nb6_b24, nb24_b22, nb22_b24, upd_app, seval]; first | done | exact e0_b3)), (by first | exact e0_b6 | (simp only [nb6_b3, nb3_b6, nb22_b3, nb3_b22, nb22_b6, nb6_b22, nb24_b3, nb3_b24, nb24_b6, nb6_b24, nb24_b22, nb22_b24, upd_app, seval]; first | done | exact e0_b6)), (by first | exact e0_b22 | (simp only [nb6_b3, nb3_b6, nb22_b3, nb3_b22, nb22_b6, nb6_b22, nb24_b3, nb3_b24, nb24_b6, nb6_b24, nb24_b22, nb22_b24, upd_app, seval]; first | done | exact e0_b22)), v', bs ++ [b43], upd_same _ _ _, (by rw [htk, List.map_append]; exact hA')⟩ (by repeat (first | exact ag0 | refine agree.upd rfl ?_))
  · have hkn0 : k = aa.length := by have := of_decide_eq_false hc; omega
    clear hc
    rw [hkn0, List.take_length] at hA
    refine awp_exit ?_; simp only [RR, seval]
    refine awp_name fun F5 M5 hfr hH => ?_
    have g3 := hfr 3
    have g6 := hfr 6
    have g7 := hfr 7
    have gb3 := hH b3
    have gb6 := hH b6
    have gb22 := hH b22
    have gb24 := hH b24
    try simp only [f3, f6, f7, f8, hb3, hb6, hb22, hb24, nb6_b3, nb3_b6, nb22_b3, nb3_b22, nb22_b6, nb6_b22, nb24_b3, nb3_b24, nb24_b6, nb6_b24, nb24_b22, nb22_b24, e2, e3, e4, List.length_map, RR, seval] at g3 g6 g7 gb3 gb6 gb22 gb24
    have hA := hA.keep (H' := M5) (fun b o hb => by rw [hH]; exact hb)
    have f3 := g3; clear g3
    have f6 := g6; clear g6
    have f7 := g7; clear g7
    have hb3 := gb3; clear gb3
    have hb6 := gb6; clear gb6
    have hb22 := gb22; clear gb22
    have hb24 := gb24; clear gb24
    clear hfr hH
    have h0 : M5 b24 = some (.rows 11 [[AV.isl 1 (vs.map strRow), .isl 2 (aa.map Ar.row), .isl 5 (fs.map Fu.row), .str inp, .int .i64 cx.fuel, .osl 1 b22 vs.length] ++ va :: [.nsl, .int .i64 0, .int .i64 0, .int .i64 0]]) := hb24
    refine awp_sealP hA.o h0 (fun x hx => ?_) (fun x hx => ?_) (hA.o.offsz hb24 (by decide)) fun FS HS hfr hb24 hkp => ?_
    · simp only [List.mem_cons, List.not_mem_nil, or_false] at hx
      rcases hx with rfl | rfl | rfl | rfl | rfl | rfl
      · exact noO_flat rfl
      · exact noO_flat rfl
      · exact noO_flat rfl
      · exact noO_flat rfl
      · exact noO_flat rfl
      · intro s b n' e'
        cases e'
        exact hA.ov
    · simp only [List.mem_cons, List.not_mem_nil, or_false] at hx
      rcases hx with rfl | rfl | rfl | rfl <;> exact noO_flat rfl
    have f3 : FS 3 = .ptr 3 b3 0 0 := (hfr 3 (by rw [f3]; exact noO_flat rfl)).trans f3
    have f6 : FS 6 = .ptr 3 b6 0 0 := (hfr 6 (by rw [f6]; exact noO_flat rfl)).trans f6
    have f7 : FS 7 = .ptr 11 b24 0 0 := (hfr 7 (by rw [f7]; exact noO_flat rfl)).trans f7
    have hb3 := hkp b3 _ _ nb3_b24 (hA.o.offsz hb3 (by decide)) (fun r hr x hx => by simp only [List.mem_singleton] at hr; subst hr; simp only [List.mem_cons, List.not_mem_nil, or_false] at hx; rcases hx with rfl | rfl | rfl <;> exact noO_flat rfl) hb3
    have hb6 := hkp b6 _ _ nb6_b24 (hA.o.offsz hb6 (by decide)) (fun r hr x hx => by simp only [List.mem_singleton] at hr; subst hr; simp only [List.mem_cons, List.not_mem_nil, or_false] at hx; rcases hx with rfl | rfl | rfl <;> exact noO_flat rfl) hb6
    have hb22 := hkp b22 _ _ nb22_b24 hA.ov (fun r hr x hx => by rw [(List.mem_replicate.1 hr).2] at hx; simp only [List.mem_singleton] at hx; subst hx; exact noO_flat rfl) hb22
    have hR : RunJ ⟨vs, aa, fs⟩ cx b24 (.osl 1 b22 vs.length) bs ⟨List.replicate vs.length 0, aa.map zz, 0, [], 0⟩ .nsl 0 HS := by
      refine ⟨by rw [hci]; exact hb24, .inr ⟨b22, by simp, by simpa [rowU] using hb22⟩, hA.l, fun i b l h1 h2 => ?_, hA.nd, (fun b hb s n' h => by cases h; exact hA.nv hb), .inl ⟨rfl, rfl⟩, (fun _ _ _ _ _ _ h => by cases h), (fun b hb s n' h => by cases h), fun x hx => ?_, fun l hl => ?_, by simp, Nat.zero_le _, Nat.zero_le _⟩
      · have hbx := hA.a i b l h1 h2
        exact hkp b _ _ (fun e' => by rw [e', h0] at hbx; cases hbx) (hA.ob b (List.mem_of_getElem? h1)) (fun r hr x hx => by obtain ⟨y, _, rfl⟩ := List.mem_map.1 hr; simp only [rowU, List.mem_singleton] at hx; subst hx; exact noO_flat rfl) hbx
      · rw [(List.mem_replicate.1 hx).2]; simp [u32R]
      · obtain ⟨a, ha', rfl⟩ := List.mem_map.1 hl
        have := hsz a ha'
        refine ⟨by simp only [zz, List.length_replicate]; omega, fun x hx => ?_⟩
        rw [(List.mem_replicate.1 hx).2]; simp [u32R]
    have hB := hB _ _ _ _ hR
    clear hkp hfr h0 hb22 hb24
    refine awp_seq_k fun K hK => ?_
    refine awp_region rfl ?_
    simp only [f3, f7, hb3, hb6, nb6_b3, nb3_b6, nb22_b3, nb3_b22, nb22_b6, nb6_b22, nb24_b3, nb3_b24, nb24_b6, nb6_b24, nb24_b22, nb22_b24, e2, e3, e4, List.length_map, RR, seval]
    refine awpC_run hB (fun _ => trivial) fun ae H2 ⟨w, vo2, g1, g2, g3, g4, g5, g6⟩ => ?_
    subst g1
    have hb6 := hR.keepW OwnW.nil hb6 (by decide) (by decide) nb6_b24 g6
    have hb24 := g5.r
    simp only [RR, seval]
    refine hK _ _ ?_; clear hK K
    refine awp_seq ?_
    refine awp_seq_k fun K hK => ?_
    refine awp_region rfl ?_
    simp only [f7, hb6, hb24, nb6_b3, nb3_b6, nb22_b3, nb3_b22, nb22_b6, nb6_b22, nb24_b3, nb3_b24, nb24_b6, nb6_b24, nb24_b22, nb22_b24, e2, e3, e4, List.length_map, RR, seval]
    refine hK _ _ ?_; clear hK K
    refine awp_if _ rfl (fun hc11 => ?_) (fun hc11 => ?_)
    · have hz : enR ro = 0 := by simpa using hc11
      obtain ⟨v0, s0, hro⟩ := enR_val (o := ro) g4 hz
      have he1 : e = 1 ∧ out = ro.st.out ∧ t = ro.st.ticks := by rw [hro] at hend ⊢; simp only [endR, Prod.mk.injEq] at hend; exact ⟨hend.1.symm, hend.2.1.symm, hend.2.2.symm⟩
      refine awp_region rfl ?_
      simp only [f7, hb6, hb24, nb6_b3, nb3_b6, nb22_b3, nb3_b22, nb22_b6, nb6_b22, nb24_b3, nb3_b24, nb24_b6, nb6_b24, nb24_b22, nb22_b24, e2, e3, e4, List.length_map, RR, seval]
      have hRF := RunJ.turn (st' := ro.st) g5 1 rfl rfl rfl g5.rd g5.tk
      have hb6f := (upd_ne H2 (some (.rows 11 [[.isl 1 (vs.map strRow), .isl 2 (aa.map Ar.row), .isl 5 (fs.map Fu.row), .str cx.inp, .int .i64 cx.fuel, .osl 1 b22 vs.length, .isl 1 (arrRows bs ro.st.arrs), vo2, .int .i64 ro.st.read, .int .i64 ro.st.ticks, .int .i64 1]])) nb6_b24).trans hb6
      have hene : (1 : Int) = e := he1.1.symm
      obtain ⟨_, ho1, ho2⟩ := he1
      refine RunJ.seal hRF fun FT HT hft hb24 hk2 => ?_
      have f6 : FT 6 = .ptr 3 b6 0 0 := (hft 6 (by simp only [upd_app, f6, seval]; rfl)).trans (by simp only [upd_app, f6, seval])
      have f7 : FT 7 = .ptr 11 b24 0 0 := (hft 7 (by simp only [upd_app, f7, seval]; rfl)).trans (by simp only [upd_app, f7, seval])
      have hb6 := hk2 b6 _ _ nb6_b24 (hRF.o.offsz hb6f (by decide)) (fun r hr x hx => by simp only [List.mem_singleton] at hr; subst hr; simp only [List.mem_cons, List.not_mem_nil, or_false] at hx; rcases hx with rfl | rfl | rfl <;> rfl) hb6f
      have hbb := bytesL_B ro.st.out
      refine awp_seq_k fun K hK => ?_
      refine awp_region_draw2 (fun _ => True) [(0, 3), (1, 3), (2, 3), (3, 1), (4, 3), (5, 3), (6, 3), (7, 1), (8, 3), (9, 3), (10, 3), (11, 3), (12, 1), (13, 3)] [(14, 1)] draws (by kernel_rfl) rfl rfl ?_
      simp only [emitF, markOf, EM, f6, f7, hb6, hb24, nb6_b3, nb3_b6, nb22_b3, nb3_b22, nb22_b6, nb6_b22, nb24_b3, nb3_b24, nb24_b6, nb6_b24, nb24_b22, nb22_b24, e2, e3, e4, List.length_map, hbb, RR, seval]
      refine hK _ _ ?_; clear hK K
      refine awp_ret ?_; simp only [bodyQ, aresult, ares, f6, f7, hb6, hb24, nb6_b3, nb3_b6, nb22_b3, nb3_b22, nb22_b6, nb6_b22, nb24_b3, nb3_b24, nb24_b6, nb6_b24, nb24_b22, nb22_b24, e2, e3, e4, List.length_map, hbb, RR, seval]
      refine Gives.pure ?_
      rw [ho1, ho2, ← hene]
      rfl
    · obtain ⟨e0, s0, hro⟩ := enR_fin (o := ro) (by simpa using hc11)
      have he1 : e = enR ro ∧ out = ro.st.out ∧ t = ro.st.ticks := by rw [hro] at hend ⊢; simp only [endR, Prod.mk.injEq] at hend; exact ⟨hend.1.symm, hend.2.1.symm, hend.2.2.symm⟩
      have hRF := g5
      have hb6f := hb6
      have hene : enR ro = e := he1.1.symm
      refine awp_skip ?_; try simp only [RR]
      obtain ⟨_, ho1, ho2⟩ := he1
      refine RunJ.seal hRF fun FT HT hft hb24 hk2 => ?_
      have f6 : FT 6 = .ptr 3 b6 0 0 := (hft 6 (by simp only [upd_app, f6, seval]; rfl)).trans (by simp only [upd_app, f6, seval])
      have f7 : FT 7 = .ptr 11 b24 0 0 := (hft 7 (by simp only [upd_app, f7, seval]; rfl)).trans (by simp only [upd_app, f7, seval])
      have hb6 := hk2 b6 _ _ nb6_b24 (hRF.o.offsz hb6f (by decide)) (fun r hr x hx => by simp only [List.mem_singleton] at hr; subst hr; simp only [List.mem_cons, List.not_mem_nil, or_false] at hx; rcases hx with rfl | rfl | rfl <;> rfl) hb6f
      have hbb := bytesL_B ro.st.out
      refine awp_seq_k fun K hK => ?_
      refine awp_region_draw2 (fun _ => True) [(0, 3), (1, 3), (2, 3), (3, 1), (4, 3), (5, 3), (6, 3), (7, 1), (8, 3), (9, 3), (10, 3), (11, 3), (12, 1), (13, 3)] [(14, 1)] draws (by kernel_rfl) rfl rfl ?_
      simp only [emitF, markOf, EM, f6, f7, hb6, hb24, nb6_b3, nb3_b6, nb22_b3, nb3_b22, nb22_b6, nb6_b22, nb24_b3, nb3_b24, nb24_b6, nb6_b24, nb24_b22, nb22_b24, e2, e3, e4, List.length_map, hbb, RR, seval]
      refine hK _ _ ?_; clear hK K
      refine awp_ret ?_; simp only [bodyQ, aresult, ares, f6, f7, hb6, hb24, nb6_b3, nb3_b6, nb22_b3, nb3_b22, nb22_b6, nb6_b22, nb24_b3, nb3_b24, nb24_b6, nb6_b24, nb24_b22, nb22_b24, e2, e3, e4, List.length_map, hbb, RR, seval]
      refine Gives.pure ?_
      rw [ho1, ho2, ← hene]
      rfl
end Go.Proofs.Ytlokndnkpleegaa
