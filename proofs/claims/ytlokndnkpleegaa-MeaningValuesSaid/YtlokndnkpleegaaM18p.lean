/- Chapter 18, the program's: a program with its names looked up. -/
import Derived.Test.YtlokndnkpleegaaM18o
import Derived.Test.YtlokndnkpleegaaT17e
set_option linter.unusedSimpArgs false
set_option linter.unusedVariables false
set_option maxRecDepth 10000
namespace Go.Al
theorem lenE_sz : ∀ l : List Ex, l.length ≤ szE l
  | [] => by simp [szE]
  | e :: l => by have := lenE_sz l; have := e.sz_eq; simp only [List.length_cons, szE]; omega
theorem lenS_sz : ∀ l : List Sm, l.length ≤ szS l
  | [] => by simp [szS]
  | e :: l => by have := lenS_sz l; have := e.sz_eq; simp only [List.length_cons, szS]; omega
/-- a function, its names looked up -/
def cfP (G : List Pl) (f : Fu) : Cf := ⟨f.params.length + f.locs.length, rsP G (inP f), f.body⟩
theorem smap_cf (m : Nat) (es : List (AV × AV)) (c : Cf) : (Cf.row c).map (smap m es) = Cf.row c := by
  simp only [Cf.row, List.map_cons, List.map_nil, smap_int, smap_isl]
theorem smap_rows (m : Nat) (es : List (AV × AV)) (G : List Pl) (l : List Fu) (n : Nat) : (l.map (fun f => Cf.row (cfP G f)) ++ List.replicate n zF).map (fun x => x.map (smap m es)) = l.map (fun f => Cf.row (cfP G f)) ++ List.replicate n zF := by
  rw [List.map_append, List.map_map, List.map_replicate]
  rfl
theorem cfP_len (G : List Pl) (f : Fu) : (Cf.row (cfP G f)).length = 2 := rfl
end Go.Al
namespace Go.Proofs.Ytlokndnkpleegaa
open Go.Al
set_option maxHeartbeats 4000000 in
theorem stmts_conP (G I : List Pl) (n : Nat) : ∀ l : List Sm, szS l ≤ n → n ≤ 2000000 → PCon env 47 [nmV G I, .isl 5 (l.map Sm.row)] (.isl 6 (l.map (cS (rsP G I)))) := by
  induction n using Nat.strongRecOn with
  | _ n ih =>
    intro l hn hb
    have hl := lenS_sz l
    have hT : ∀ e ∈ l, PCon env 47 [nmV G I, .isl 5 (e.thn.map Sm.row)] (.isl 6 (e.thn.map (cS (rsP G I)))) := fun e he => by
      have h1 := szS_mem he
      have h2 := e.sz_eq
      exact ih (szS e.thn) (by omega) e.thn (Nat.le_refl _) (by omega)
    have hU : ∀ e ∈ l, PCon env 47 [nmV G I, .isl 5 (e.els.map Sm.row)] (.isl 6 (e.els.map (cS (rsP G I)))) := fun e he => by
      have h1 := szS_mem he
      have h2 := e.sz_eq
      exact ih (szS e.els) (by omega) e.els (Nat.le_refl _) (by omega)
    have hE : ∀ e ∈ l, PCon env 64 [nmV G I, .isl 5 (e.es.map Ex.row)] (.isl 6 (e.es.map (cE (rsP G I)))) := fun e he => by
      have h1 := szS_mem he
      have h2 := e.sz_eq
      exact exprs_conP G I (szE e.es) e.es (Nat.le_refl _) (by omega)
    have hfd := fun s => find_conP G I s
    have e1 : (96 : Int) * (l.length : Int) ≤ 281474976710656 := by omega
    clear ih
    unfold nmV at *
    generalize imP G = mG at *
    generalize imP I = mI at *
    generalize rsP G I = rs at *
    refine con_of 47 [.tmp 4] Try.func47 rfl rfl rfl rfl ?_
    refine awp_seq_k fun K hK => ?_
    refine awp_region rfl ?_
    simp only [e1, List.length_map, RR, seval]
    refine awpN_intro fun b2 hn2 => ?_
    simp only [e1, List.length_map, RR, seval]
    refine hK _ _ ?_; clear hK K
    refine awp_seq_k fun K hK => ?_
    refine awp_region rfl ?_
    simp only [e1, List.length_map, RR, seval]
    refine awpN_intro fun b11 hn11 => ?_
    have nb11_b2 : b11 ≠ b2 := fun e => by rw [e] at hn11; simp only [RR, seval, reduceCtorEq] at hn11
    have nb2_b11 : b2 ≠ b11 := fun e => nb11_b2 e.symm
    simp only [nb11_b2, nb2_b11, e1, List.length_map, RR, seval]
    refine hK _ _ ?_; clear hK K
    refine awp_seq ?_
    refine awp_seq_k fun K hK => ?_
    refine awp_region rfl ?_
    simp only [nb11_b2, nb2_b11, e1, List.length_map, RR, seval]
    refine hK _ _ ?_; clear hK K
    refine awp_name fun F1 M1 hfr hH => ?_
    have g2 := hfr 2
    have g4 := hfr 4
    have g5 := hfr 5
    have g12 := hfr 12
    have g13 := hfr 13
    have g14 := hfr 14
    have gb2 := hH b2
    have gb11 := hH b11
    try simp only [nb11_b2, nb2_b11, e1, List.length_map, RR, seval] at g2 g4 g5 g12 g13 g14 gb2 gb11
    have f2 := g2; clear g2
    have f4 := g4; clear g4
    have f5 := g5; clear g5
    have f12 := g12; clear g12
    have f13 := g13; clear g13
    have f14 := g14; clear g14
    have hb2 := gb2; clear gb2
    have hb11 := gb11; clear gb11
    clear hfr hH
    refine awp_block ?_
    refine awp_each [2, 4, 5, 12, 13] (l.length) (fun k fr M => fr 14 = .int .i64 (k : Nat) ∧ M b2 = M1 b2 ∧ M b11 = some (.rows 6 ((l.take k).map (cS rs) ++ List.replicate (l.length - k) zS))) ⟨f14, rfl, by rw [hb11]; rfl⟩ ?_
    rintro k F2 M2 hk0 ⟨fx, gb2, hb11⟩ agx K0 hK0
    have f2 := (agx 2 rfl).trans f2
    have f4 := (agx 4 rfl).trans f4
    have f5 := (agx 5 rfl).trans f5
    have f12 := (agx 12 rfl).trans f12
    have f13 := (agx 13 rfl).trans f13
    have f14 := fx; clear fx
    have hb2 := gb2.trans hb2
    have ag0 := agree.refl [2, 4, 5, 12, 13] F2
    have e0_b2 := gb2; clear gb2
    clear agx
    refine awp_seq_k fun K hK => ?_
    refine awp_region rfl ?_
    simp only [f13, f14, e1, List.length_map, RR, seval]
    refine hK _ _ ?_; clear hK K
    refine awp_seq ?_
    refine awp_if _ rfl (fun hc => ?_) (fun hc => ?_)
    · have hlt0 : k < l.length := by have := of_decide_eq_true hc; omega
      clear hc
      have hg0 := List.getElem?_eq_getElem hlt0
      have htk : l.take (k + 1) = l.take k ++ [l[k]] := List.take_succ_eq_append_getElem hlt0
      have hk1 := hE _ (List.getElem_mem hlt0)
      have hk2 := hT _ (List.getElem_mem hlt0)
      have hk3 := hU _ (List.getElem_mem hlt0)
      generalize l[k] = e at hg0 htk hk1 hk2 hk3
      have hg := getS hg0
      have hf := hfd e.name
      have hkl : (l.take k).length = k := by rw [List.length_take]; omega
      have zk : (k : Int) < (l.length : Int) := by omega
      have hz := fill_get (cS rs) (l.take k) zS hkl hlt0
      have hs := fill_set (cS rs) (l.take k) e zS hkl hlt0
      rw [← htk, cS_eq] at hs
      generalize (l.take k).map (cS rs) ++ List.replicate (l.length - k) zS = rows at hb11 hz hs
      unfold zS at hz
      refine awp_skip ?_; try simp only [RR]
      refine awp_seq ?_
      refine awp_block ?_
      refine awp_seq_k fun K hK => ?_
      refine awp_region rfl ?_
      simp only [f12, f14, hb2, hb11, nb11_b2, nb2_b11, e1, List.length_map, hg, hz, zk, RR, seval]
      refine awpN_intro fun b7 hn7 => ?_
      have nb7_b2 : b7 ≠ b2 := fun e => by rw [e] at hn7; simp only [hb2, nb11_b2, nb2_b11, RR, seval, reduceCtorEq] at hn7
      have nb2_b7 : b2 ≠ b7 := fun e => nb7_b2 e.symm
      have nb7_b11 : b7 ≠ b11 := fun e => by rw [e] at hn7; simp only [hb11, nb11_b2, nb2_b11, RR, seval, reduceCtorEq] at hn7
      have nb11_b7 : b11 ≠ b7 := fun e => nb7_b11 e.symm
      simp only [f12, f14, hb2, hb11, nb11_b2, nb2_b11, nb7_b2, nb2_b7, nb7_b11, nb11_b7, e1, List.length_map, hg, hz, zk, RR, seval]
      refine hK _ _ ?_; clear hK K
      refine awp_seq_k fun K hK => ?_
      refine awp_region rfl ?_
      simp only [f2, hb2, hb11, nb11_b2, nb2_b11, nb7_b2, nb2_b7, nb7_b11, nb11_b7, e1, List.length_map, hg, hz, zk, RR, seval]
      refine awpC_pure' (hf) ?_
      simp only [f2, hb2, hb11, nb11_b2, nb2_b11, nb7_b2, nb2_b7, nb7_b11, nb11_b7, e1, List.length_map, hg, hz, zk, RR, seval]
      refine awpN_intro fun b8 hn8 => ?_
      have nb8_b2 : b8 ≠ b2 := fun e => by rw [e] at hn8; simp only [hb2, nb11_b2, nb2_b11, nb7_b2, nb2_b7, RR, seval, reduceCtorEq] at hn8
      have nb2_b8 : b2 ≠ b8 := fun e => nb8_b2 e.symm
      have nb8_b11 : b8 ≠ b11 := fun e => by rw [e] at hn8; simp only [hb11, nb11_b2, nb2_b11, nb7_b11, nb11_b7, RR, seval, reduceCtorEq] at hn8
      have nb11_b8 : b11 ≠ b8 := fun e => nb8_b11 e.symm
      have nb8_b7 : b8 ≠ b7 := fun e => by rw [e] at hn8; simp only [nb7_b2, nb2_b7, nb7_b11, nb11_b7, RR, seval, reduceCtorEq] at hn8
      have nb7_b8 : b7 ≠ b8 := fun e => nb8_b7 e.symm
      simp only [f2, hb2, hb11, nb11_b2, nb2_b11, nb7_b2, nb2_b7, nb7_b11, nb11_b7, nb8_b2, nb2_b8, nb8_b11, nb11_b8, nb8_b7, nb7_b8, e1, List.length_map, hg, hz, zk, RR, seval]
      refine hK _ _ ?_; clear hK K
      refine awp_name fun F3 M3 hfr hH => ?_
      have g2 := hfr 2
      have g4 := hfr 4
      have g5 := hfr 5
      have g6 := hfr 6
      have g7 := hfr 7
      have g8 := hfr 8
      have g12 := hfr 12
      have g13 := hfr 13
      have g14 := hfr 14
      have gb2 := hH b2
      have gb11 := hH b11
      have gb7 := hH b7
      have gb8 := hH b8
      try simp only [f2, f4, f5, f12, f13, f14, hb2, hb11, nb11_b2, nb2_b11, nb7_b2, nb2_b7, nb7_b11, nb11_b7, nb8_b2, nb2_b8, nb8_b11, nb11_b8, nb8_b7, nb7_b8, e1, List.length_map, hg, hz, zk, RR, seval] at g2 g4 g5 g6 g7 g8 g12 g13 g14 gb2 gb11 gb7 gb8
      have ag0 : agree [2, 4, 5, 12, 13] F2 F3 := agree.same hfr (by repeat (first | exact ag0 | refine agree.upd rfl ?_))
      have e0_b2 := (hH b2).trans (by first | exact e0_b2 | (simp only [nb11_b2, nb2_b11, nb7_b2, nb2_b7, nb7_b11, nb11_b7, nb8_b2, nb2_b8, nb8_b11, nb11_b8, nb8_b7, nb7_b8, upd_app, seval]; first | done | exact e0_b2))
      have f2 := g2; clear g2
      have f4 := g4; clear g4
      have f5 := g5; clear g5
      have f6 := g6; clear g6
      have f7 := g7; clear g7
      have f8 := g8; clear g8
      have f12 := g12; clear g12
      have f13 := g13; clear g13
      have f14 := g14; clear g14
      have hb2 := gb2; clear gb2
      have hb11 := gb11; clear gb11
      have hb7 := gb7; clear gb7
      have hb8 := gb8; clear gb8
      clear hfr hH
      refine awp_region_draw2 (fun x => x ≠ b2 ∧ x ≠ b7 ∧ x ≠ b8) [(0, 3), (1, 3), (2, 3), (3, 0), (4, 3), (5, 0), (6, 3), (7, 0), (8, 1), (9, 3), (10, 1), (12, 0), (13, 3), (14, 0), (16, 0), (17, 3), (18, 0), (11, 1), (15, 1), (19, 1), (20, 3), (21, 3)] [(22, 1)] draws (by kernel_rfl) rfl rfl ?_
      simp only [emitF, markOf, EM, f2, f5, f6, f7, f8, hb2, hb11, hb7, hb8, nb11_b2, nb2_b11, nb7_b2, nb2_b7, nb7_b11, nb11_b7, nb8_b2, nb2_b8, nb8_b11, nb11_b8, nb8_b7, nb7_b8, e1, List.length_map, hg, hz, zk, RR, seval]
      refine awpC_pure' (hk1) ?_
      simp only [emitF, markOf, EM, f2, f5, f6, f7, f8, hb2, hb11, hb7, hb8, nb11_b2, nb2_b11, nb7_b2, nb2_b7, nb7_b11, nb11_b7, nb8_b2, nb2_b8, nb8_b11, nb11_b8, nb8_b7, nb7_b8, e1, List.length_map, hg, hz, zk, RR, seval]
      refine awpC_pure' (hk2) ?_
      simp only [emitF, markOf, EM, f2, f5, f6, f7, f8, hb2, hb11, hb7, hb8, nb11_b2, nb2_b11, nb7_b2, nb2_b7, nb7_b11, nb11_b7, nb8_b2, nb2_b8, nb8_b11, nb11_b8, nb8_b7, nb7_b8, e1, List.length_map, hg, hz, zk, RR, seval]
      refine awpC_pure' (hk3) ?_
      simp only [emitF, markOf, EM, f2, f5, f6, f7, f8, hb2, hb11, hb7, hb8, nb11_b2, nb2_b11, nb7_b2, nb2_b7, nb7_b11, nb11_b7, nb8_b2, nb2_b8, nb8_b11, nb11_b8, nb8_b7, nb7_b8, e1, List.length_map, hg, hz, zk, RR, seval]
      refine awp_region rfl ?_
      simp only [f14, e1, List.length_map, hg, hz, zk, RR, seval]
      try rw [IntWalk.i64_in _ (by omega)]
      refine hK0 _ _ hlt0 ⟨by first | rfl | (simp only [upd_app, seval]; rfl), (by first | exact e0_b2 | (simp only [nb11_b2, nb2_b11, nb7_b2, nb2_b7, nb7_b11, nb11_b7, nb8_b2, nb2_b8, nb8_b11, nb11_b8, nb8_b7, nb7_b8, upd_app, seval]; first | done | exact e0_b2)), by rw [← hs]; first | exact upd_same _ _ _ | (simp only [upd_app, seval]; rfl)⟩ (by repeat (first | exact ag0 | refine agree.upd rfl ?_))
    · have hkn0 : k = l.length := by have := of_decide_eq_false hc; omega
      clear hc
      rw [hkn0, List.take_length, Nat.sub_self, List.replicate_zero, List.append_nil] at hb11
      refine awp_exit ?_; simp only [RR, seval]
      refine awp_seq_k fun K hK => ?_
      refine awp_region rfl ?_
      simp only [f5, e1, List.length_map, RR, seval]
      refine hK _ _ ?_; clear hK K
      refine awp_ret ?_; simp only [bodyQ, aresult, ares, f4, e1, List.length_map, RR, seval]
      exact OwnL.gives1 (.inr ⟨b11, by rw [List.length_map], hb11⟩) rfl
      skip
set_option maxHeartbeats 8000000 in
theorem prepare_con (p : Pg) (hn : (globL p).Nodup) (hnl : ∀ f ∈ p.funs, (namesL f).Nodup) (hv : p.vars.length ≤ 2000000) (ha : p.arrs.length ≤ 2000000) (hf : p.funs.length ≤ 2000000) (hb : ∀ f ∈ p.funs, f.params.length ≤ 2000000 ∧ f.locs.length ≤ 2000000 ∧ szS f.body ≤ 2000000) :
    PCon env 32 [p.av] (.isl 2 ((p.funs.map (cfP (outP p))).map Cf.row)) := by
  obtain ⟨G, hG⟩ : ∃ G, outP p = G := ⟨_, rfl⟩
  rw [hG]
  have hsc : ∀ f ∈ p.funs, PCon env 47 [nmV G (inP f), .isl 5 (f.body.map Sm.row)] (.isl 6 (f.body.map (cS (rsP G (inP f))))) := fun f hf => stmts_conP G (inP f) _ f.body (Nat.le_refl _) (hb f hf).2.2
  obtain ⟨vs, aa, fs⟩ := p
  simp only [outP] at hG
  simp only [globL] at hn
  simp only [Pg.av, Pg.row]
  simp only at hv ha hf hb hsc hnl ⊢
  have hNa : (vs ++ aa.map Ar.name).Nodup := (List.nodup_append.1 hn).1
  have hNv : vs.Nodup := (List.nodup_append.1 hNa).1
  have hNv' : ([] ++ vs).Nodup := by rw [List.nil_append]; exact hNv
  have e1 : (32 : Int) * (fs.length : Int) ≤ 281474976710656 := by omega
  unfold nmV at hsc
  refine con_of 124 [.tmp 2] Try.func32 rfl rfl rfl rfl ?_
  refine awp_seq_k fun K hK => ?_
  refine awp_region rfl ?_
  simp only [e1, List.length_map, RR, seval]
  refine awpN_intro fun b1 hn1 => ?_
  simp only [e1, List.length_map, RR, seval]
  refine hK _ _ ?_; clear hK K
  refine awp_seq_k fun K hK => ?_
  refine awp_region rfl ?_
  simp only [e1, List.length_map, RR, seval]
  refine awpN_intro fun b19 hn19 => ?_
  have nb19_b1 : b19 ≠ b1 := fun e => by rw [e] at hn19; simp only [RR, seval, reduceCtorEq] at hn19
  have nb1_b19 : b1 ≠ b19 := fun e => nb19_b1 e.symm
  simp only [nb19_b1, nb1_b19, e1, List.length_map, RR, seval]
  refine hK _ _ ?_; clear hK K
  refine awp_seq ?_
  refine awp_seq_k fun K hK => ?_
  refine awp_region rfl ?_
  simp only [nb19_b1, nb1_b19, e1, List.length_map, RR, seval]
  refine hK _ _ ?_; clear hK K
  refine awp_name fun F1 M1 hfr hH => ?_
  have g1 := hfr 1
  have g2 := hfr 2
  have g3 := hfr 3
  have g21 := hfr 21
  have g22 := hfr 22
  have g23 := hfr 23
  have gb1 := hH b1
  have gb19 := hH b19
  try simp only [nb19_b1, nb1_b19, e1, List.length_map, RR, seval] at g1 g2 g3 g21 g22 g23 gb1 gb19
  have f1 := g1; clear g1
  have f2 := g2; clear g2
  have f3 := g3; clear g3
  have f21 := g21; clear g21
  have f22 := g22; clear g22
  have f23 := g23; clear g23
  have hb1 := gb1; clear gb1
  have hb19 := gb19; clear gb19
  clear hfr hH
  refine awp_block ?_
  refine awp_each [1, 2, 3, 21, 22] (vs.length) (fun k fr M => fr 23 = .int .i64 (k : Nat) ∧ M b1 = M1 b1 ∧ M b19 = some (.amap ((plK false 0 (vs.take k)).map entP))) ⟨f23, rfl, by rw [hb19]; rfl⟩ ?_
  rintro k F2 M2 hk0 ⟨fx, gb1, hb19⟩ agx K0 hK0
  have f1 := (agx 1 rfl).trans f1
  have f2 := (agx 2 rfl).trans f2
  have f3 := (agx 3 rfl).trans f3
  have f21 := (agx 21 rfl).trans f21
  have f22 := (agx 22 rfl).trans f22
  have f23 := fx; clear fx
  have hb1 := gb1.trans hb1
  have ag0 := agree.refl [1, 2, 3, 21, 22] F2
  have e0_b1 := gb1; clear gb1
  clear agx
  refine awp_seq_k fun K hK => ?_
  refine awp_region rfl ?_
  simp only [f22, f23, e1, List.length_map, RR, seval]
  refine hK _ _ ?_; clear hK K
  refine awp_seq ?_
  refine awp_if _ rfl (fun hc => ?_) (fun hc => ?_)
  · have hlt0 : k < vs.length := by have := of_decide_eq_true hc; omega
    clear hc
    have hg0 := List.getElem?_eq_getElem hlt0
    generalize vs[k] = s at hg0
    have hg := getN hg0
    have hni := nodup_mid hNv' hg0
    have hput := put_pl (plK false 0 (vs.take k)) s false (k : Int) (by rw [plK_names]; simpa using hni)
    have htk := plK_take false vs 0 k s hg0
    rw [Nat.zero_add] at htk
    rw [← htk] at hput
    generalize (plK false 0 (vs.take k)).map entP = es at hput hb19
    refine awp_skip ?_; try simp only [RR]
    refine awp_seq ?_
    refine awp_block ?_
    refine awp_seq_k fun K hK => ?_
    refine awp_region rfl ?_
    simp only [f21, f23, hb1, hb19, nb19_b1, nb1_b19, e1, List.length_map, hg, hput, RR, seval]
    refine hK _ _ ?_; clear hK K
    refine awp_region rfl ?_
    simp only [f3, hb1, hb19, nb19_b1, nb1_b19, e1, List.length_map, hg, hput, RR, seval]
    refine awp_region rfl ?_
    simp only [f23, e1, List.length_map, hg, hput, RR, seval]
    try rw [IntWalk.i64_in _ (by omega)]
    refine hK0 _ _ hlt0 ⟨by first | rfl | (simp only [upd_app, seval]; rfl), (by first | exact e0_b1 | (simp only [nb19_b1, nb1_b19, upd_app, seval]; first | done | exact e0_b1)), upd_same _ _ _⟩ (by repeat (first | exact ag0 | refine agree.upd rfl ?_))
  · have hkn0 : k = vs.length := by have := of_decide_eq_false hc; omega
    clear hc
    rw [hkn0, List.take_length] at hb19
    refine awp_exit ?_; simp only [RR, seval]
    refine awp_seq ?_
    refine awp_seq_k fun K hK => ?_
    refine awp_region rfl ?_
    simp only [f1, hb1, hb19, nb19_b1, nb1_b19, e1, List.length_map, RR, seval]
    refine hK _ _ ?_; clear hK K
    refine awp_name fun F3 M3 hfr hH => ?_
    have g1 := hfr 1
    have g2 := hfr 2
    have g3 := hfr 3
    have g34 := hfr 34
    have g35 := hfr 35
    have g36 := hfr 36
    have gb1 := hH b1
    have gb19 := hH b19
    try simp only [f1, f2, f3, f21, f22, f23, hb1, hb19, nb19_b1, nb1_b19, e1, List.length_map, RR, seval] at g1 g2 g3 g34 g35 g36 gb1 gb19
    have f1 := g1; clear g1
    have f2 := g2; clear g2
    have f3 := g3; clear g3
    have f34 := g34; clear g34
    have f35 := g35; clear g35
    have f36 := g36; clear g36
    have hb1 := gb1; clear gb1
    have hb19 := gb19; clear gb19
    clear hfr hH
    refine awp_block ?_
    refine awp_each [1, 2, 3, 34, 35] (aa.length) (fun k fr M => fr 36 = .int .i64 (k : Nat) ∧ M b1 = M3 b1 ∧ M b19 = some (.amap ((plK false 0 vs ++ plK false 0 ((aa.map Ar.name).take k)).map entP))) ⟨f36, rfl, by rw [hb19]; simp [plK]⟩ ?_
    rintro k F4 M4 hk2 ⟨fx, gb1, hb19⟩ agx K2 hK2
    have f1 := (agx 1 rfl).trans f1
    have f2 := (agx 2 rfl).trans f2
    have f3 := (agx 3 rfl).trans f3
    have f34 := (agx 34 rfl).trans f34
    have f35 := (agx 35 rfl).trans f35
    have f36 := fx; clear fx
    have hb1 := gb1.trans hb1
    have ag2 := agree.refl [1, 2, 3, 34, 35] F4
    have e2_b1 := gb1; clear gb1
    clear agx
    refine awp_seq_k fun K hK => ?_
    refine awp_region rfl ?_
    simp only [f35, f36, e1, List.length_map, RR, seval]
    refine hK _ _ ?_; clear hK K
    refine awp_seq ?_
    refine awp_if _ rfl (fun hc => ?_) (fun hc => ?_)
    · have hlt2 : k < aa.length := by have := of_decide_eq_true hc; omega
      clear hc
      have hg0 := List.getElem?_eq_getElem hlt2
      generalize aa[k] = a at hg0
      have hg := getA hg0
      have hg1 : (aa.map Ar.name)[k]? = some a.name := by rw [List.getElem?_map, hg0]; rfl
      have hni := nodup_mid hNa hg1
      have hput := put_pl (plK false 0 vs ++ plK false 0 ((aa.map Ar.name).take k)) a.name false (k : Int) (by rw [List.map_append, plK_names, plK_names]; exact hni)
      have htk := plK_take false (aa.map Ar.name) 0 k a.name hg1
      rw [Nat.zero_add] at htk
      rw [List.append_assoc, ← htk] at hput
      generalize (plK false 0 vs ++ plK false 0 ((aa.map Ar.name).take k)).map entP = es at hput hb19
      refine awp_skip ?_; try simp only [RR]
      refine awp_seq ?_
      refine awp_block ?_
      refine awp_seq_k fun K hK => ?_
      refine awp_region rfl ?_
      simp only [f34, f36, hb1, hb19, nb19_b1, nb1_b19, e1, List.length_map, hg, hput, RR, seval]
      refine awpN_intro fun b7 hn7 => ?_
      have nb7_b1 : b7 ≠ b1 := fun e => by rw [e] at hn7; simp only [hb1, nb19_b1, nb1_b19, RR, seval, reduceCtorEq] at hn7
      have nb1_b7 : b1 ≠ b7 := fun e => nb7_b1 e.symm
      have nb7_b19 : b7 ≠ b19 := fun e => by rw [e] at hn7; simp only [hb19, nb19_b1, nb1_b19, RR, seval, reduceCtorEq] at hn7
      have nb19_b7 : b19 ≠ b7 := fun e => nb7_b19 e.symm
      simp only [f34, f36, hb1, hb19, nb19_b1, nb1_b19, nb7_b1, nb1_b7, nb7_b19, nb19_b7, e1, List.length_map, hg, hput, RR, seval]
      refine hK _ _ ?_; clear hK K
      refine awp_region rfl ?_
      simp only [f3, hb1, hb19, nb19_b1, nb1_b19, nb7_b1, nb1_b7, nb7_b19, nb19_b7, e1, List.length_map, hg, hput, RR, seval]
      refine awp_region rfl ?_
      simp only [f36, e1, List.length_map, hg, hput, RR, seval]
      try rw [IntWalk.i64_in _ (by omega)]
      refine hK2 _ _ hlt2 ⟨by first | rfl | (simp only [upd_app, seval]; rfl), (by first | exact e2_b1 | (simp only [nb19_b1, nb1_b19, nb7_b1, nb1_b7, nb7_b19, nb19_b7, upd_app, seval]; first | done | exact e2_b1)), by simp only [upd_app, seval]; first | rfl | done⟩ (by repeat (first | exact ag2 | refine agree.upd rfl ?_))
    · have hkn2 : k = aa.length := by have := of_decide_eq_false hc; omega
      clear hc
      rw [hkn2, ← List.length_map (f := Ar.name), List.take_length] at hb19
      refine awp_exit ?_; simp only [RR, seval]
      refine awp_seq ?_
      refine awp_seq_k fun K hK => ?_
      refine awp_region rfl ?_
      simp only [f1, hb1, hb19, nb19_b1, nb1_b19, e1, List.length_map, RR, seval]
      refine hK _ _ ?_; clear hK K
      refine awp_name fun F5 M5 hfr hH => ?_
      have g1 := hfr 1
      have g2 := hfr 2
      have g3 := hfr 3
      have g48 := hfr 48
      have g49 := hfr 49
      have g50 := hfr 50
      have gb1 := hH b1
      have gb19 := hH b19
      try simp only [f1, f2, f3, f34, f35, f36, hb1, hb19, nb19_b1, nb1_b19, e1, List.length_map, RR, seval] at g1 g2 g3 g48 g49 g50 gb1 gb19
      have f1 := g1; clear g1
      have f2 := g2; clear g2
      have f3 := g3; clear g3
      have f48 := g48; clear g48
      have f49 := g49; clear g49
      have f50 := g50; clear g50
      have hb1 := gb1; clear gb1
      have hb19 := gb19; clear gb19
      clear hfr hH
      refine awp_block ?_
      refine awp_each [1, 2, 3, 48, 49] (fs.length) (fun k fr M => fr 50 = .int .i64 (k : Nat) ∧ M b1 = M5 b1 ∧ M b19 = some (.amap ((plK false 0 vs ++ plK false 0 (aa.map Ar.name) ++ plK false 0 ((fs.map Fu.name).take k)).map entP))) ⟨f50, rfl, by rw [hb19]; simp [plK]⟩ ?_
      rintro k F6 M6 hk4 ⟨fx, gb1, hb19⟩ agx K4 hK4
      have f1 := (agx 1 rfl).trans f1
      have f2 := (agx 2 rfl).trans f2
      have f3 := (agx 3 rfl).trans f3
      have f48 := (agx 48 rfl).trans f48
      have f49 := (agx 49 rfl).trans f49
      have f50 := fx; clear fx
      have hb1 := gb1.trans hb1
      have ag4 := agree.refl [1, 2, 3, 48, 49] F6
      have e4_b1 := gb1; clear gb1
      clear agx
      refine awp_seq_k fun K hK => ?_
      refine awp_region rfl ?_
      simp only [f49, f50, e1, List.length_map, RR, seval]
      refine hK _ _ ?_; clear hK K
      refine awp_seq ?_
      refine awp_if _ rfl (fun hc => ?_) (fun hc => ?_)
      · have hlt4 : k < fs.length := by have := of_decide_eq_true hc; omega
        clear hc
        have hg0 := List.getElem?_eq_getElem hlt4
        generalize fs[k] = f at hg0
        have hg := getF hg0
        have hg1 : (fs.map Fu.name)[k]? = some f.name := by rw [List.getElem?_map, hg0]; rfl
        have hni := nodup_mid hn hg1
        have hput := put_pl (plK false 0 vs ++ plK false 0 (aa.map Ar.name) ++ plK false 0 ((fs.map Fu.name).take k)) f.name false (k : Int) (by rw [List.map_append, List.map_append, plK_names, plK_names, plK_names]; exact hni)
        have htk := plK_take false (fs.map Fu.name) 0 k f.name hg1
        rw [Nat.zero_add] at htk
        rw [List.append_assoc (plK false 0 vs ++ plK false 0 (aa.map Ar.name)), ← htk] at hput
        generalize (plK false 0 vs ++ plK false 0 (aa.map Ar.name) ++ plK false 0 ((fs.map Fu.name).take k)).map entP = es at hput hb19
        refine awp_skip ?_; try simp only [RR]
        refine awp_seq ?_
        refine awp_block ?_
        refine awp_seq_k fun K hK => ?_
        refine awp_region rfl ?_
        simp only [f48, f50, hb1, hb19, nb19_b1, nb1_b19, e1, List.length_map, hg, hput, RR, seval]
        refine awpN_intro fun b9 hn9 => ?_
        have nb9_b1 : b9 ≠ b1 := fun e => by rw [e] at hn9; simp only [hb1, nb19_b1, nb1_b19, RR, seval, reduceCtorEq] at hn9
        have nb1_b9 : b1 ≠ b9 := fun e => nb9_b1 e.symm
        have nb9_b19 : b9 ≠ b19 := fun e => by rw [e] at hn9; simp only [hb19, nb19_b1, nb1_b19, RR, seval, reduceCtorEq] at hn9
        have nb19_b9 : b19 ≠ b9 := fun e => nb9_b19 e.symm
        simp only [f48, f50, hb1, hb19, nb19_b1, nb1_b19, nb9_b1, nb1_b9, nb9_b19, nb19_b9, e1, List.length_map, hg, hput, RR, seval]
        refine hK _ _ ?_; clear hK K
        refine awp_region rfl ?_
        simp only [f3, hb1, hb19, nb19_b1, nb1_b19, nb9_b1, nb1_b9, nb9_b19, nb19_b9, e1, List.length_map, hg, hput, RR, seval]
        refine awp_region rfl ?_
        simp only [f50, e1, List.length_map, hg, hput, RR, seval]
        try rw [IntWalk.i64_in _ (by omega)]
        refine hK4 _ _ hlt4 ⟨by first | rfl | (simp only [upd_app, seval]; rfl), (by first | exact e4_b1 | (simp only [nb19_b1, nb1_b19, nb9_b1, nb1_b9, nb9_b19, nb19_b9, upd_app, seval]; first | done | exact e4_b1)), by simp only [upd_app, seval]; first | rfl | done⟩ (by repeat (first | exact ag4 | refine agree.upd rfl ?_))
      · have hkn4 : k = fs.length := by have := of_decide_eq_false hc; omega
        clear hc
        rw [hkn4, ← List.length_map (f := Fu.name), List.take_length, hG] at hb19
        refine awp_exit ?_; simp only [RR, seval]
        refine awp_name fun F7 M7 hfr hH => ?_
        have g1 := hfr 1
        have g2 := hfr 2
        have g3 := hfr 3
        have gb1 := hH b1
        have gb19 := hH b19
        try simp only [f1, f2, f3, f48, f49, f50, hb1, hb19, nb19_b1, nb1_b19, e1, List.length_map, RR, seval] at g1 g2 g3 gb1 gb19
        have f1 := g1; clear g1
        have f2 := g2; clear g2
        have f3 := g3; clear g3
        have hb1 := gb1; clear gb1
        have hb19 := gb19; clear gb19
        clear hfr hH
        refine awp_sealMap hb19 ?_
        refine awp_name fun F8 M8 hfr hH => ?_
        have g1 := hfr 1
        have g2 := hfr 2
        have g3 := hfr 3
        have gb1 := hH b1
        try simp only [SM, List.map_cons, List.map_nil, Option.map_some, f1, f2, f3, hb1, nb19_b1, nb1_b19, e1, List.length_map, RR, seval] at g1 g2 g3 gb1
        have f1 := g1; clear g1
        have f2 := g2; clear g2
        have f3 := g3; clear g3
        have hb1 := gb1; clear gb1
        clear hfr hH
        refine awp_seq_k fun K hK => ?_
        refine awp_region rfl ?_
        simp only [f1, hb1, nb19_b1, nb1_b19, e1, List.length_map, RR, seval]
        refine awpN_intro fun b64 hn64 => ?_
        have nb64_b1 : b64 ≠ b1 := fun e => by rw [e] at hn64; simp only [hb1, nb19_b1, nb1_b19, RR, seval, reduceCtorEq] at hn64
        have nb1_b64 : b1 ≠ b64 := fun e => nb64_b1 e.symm
        simp only [f1, hb1, nb19_b1, nb1_b19, nb64_b1, nb1_b64, e1, List.length_map, RR, seval]
        refine hK _ _ ?_; clear hK K
        refine awp_seq ?_
        refine awp_seq_k fun K hK => ?_
        refine awp_region rfl ?_
        simp only [f1, hb1, nb19_b1, nb1_b19, nb64_b1, nb1_b64, e1, List.length_map, RR, seval]
        refine hK _ _ ?_; clear hK K
        refine awp_name fun F9 M9 hfr hH => ?_
        have g2 := hfr 2
        have g3 := hfr 3
        have g10 := hfr 10
        have g66 := hfr 66
        have g67 := hfr 67
        have g68 := hfr 68
        have gb1 := hH b1
        have gb64 := hH b64
        try simp only [f1, f2, f3, hb1, nb19_b1, nb1_b19, nb64_b1, nb1_b64, e1, List.length_map, RR, seval] at g2 g3 g10 g66 g67 g68 gb1 gb64
        have f2 := g2; clear g2
        have f3 := g3; clear g3
        have f10 := g10; clear g10
        have f66 := g66; clear g66
        have f67 := g67; clear g67
        have f68 := g68; clear g68
        have hb1 := gb1; clear gb1
        have hb64 := gb64; clear gb64
        clear hfr hH
        refine awp_block ?_
        refine awp_each [2, 3, 10, 66, 67] (fs.length) (fun k fr M => fr 68 = .int .i64 (k : Nat) ∧ M b1 = M9 b1 ∧ M b64 = some (.rows 2 ((fs.take k).map (fun f => Cf.row (cfP G f)) ++ List.replicate (fs.length - k) zF))) ⟨f68, rfl, by rw [hb64]; rfl⟩ ?_
        rintro k F10 M10 hk6 ⟨fx, gb1, hb64⟩ agx K6 hK6
        have f2 := (agx 2 rfl).trans f2
        have f3 := (agx 3 rfl).trans f3
        have f10 := (agx 10 rfl).trans f10
        have f66 := (agx 66 rfl).trans f66
        have f67 := (agx 67 rfl).trans f67
        have f68 := fx; clear fx
        have hb1 := gb1.trans hb1
        have ag6 := agree.refl [2, 3, 10, 66, 67] F10
        have e6_b1 := gb1; clear gb1
        clear agx
        refine awp_seq_k fun K hK => ?_
        refine awp_region rfl ?_
        simp only [f67, f68, e1, List.length_map, RR, seval]
        refine hK _ _ ?_; clear hK K
        refine awp_seq ?_
        refine awp_if _ rfl (fun hc => ?_) (fun hc => ?_)
        · have hlt6 : k < fs.length := by have := of_decide_eq_true hc; omega
          clear hc
          have hg0 := List.getElem?_eq_getElem hlt6
          have htk6 : fs.take (k + 1) = fs.take k ++ [fs[k]] := List.take_succ_eq_append_getElem hlt6
          have hkd := hsc _ (List.getElem_mem hlt6)
          have hnn := hnl _ (List.getElem_mem hlt6)
          have hbb := hb _ (List.getElem_mem hlt6)
          generalize fs[k] = f at hg0 htk6 hkd hnn hbb
          have hg6 := getF hg0
          have hkl : (fs.take k).length = k := by rw [List.length_take]; omega
          have zk : (k : Int) < (fs.length : Int) := by omega
          have hz := fill_get (fun f => Cf.row (cfP G f)) (fs.take k) zF hkl hlt6
          have hs := fill_set (fun f => Cf.row (cfP G f)) (fs.take k) f zF hkl hlt6
          rw [← htk6] at hs
          have ew : IntKind.wrap .i64 ((f.params.length : Int) + (f.locs.length : Int)) = ((f.params.length + f.locs.length : Nat) : Int) := by rw [IntWalk.i64_in _ (by omega)]; omega
          have hcf : Cf.row (cfP G f) = [.int .i64 ((f.params.length + f.locs.length : Nat) : Int), .isl 6 (f.body.map (cS (rsP G (inP f))))] := rfl
          have hsm := fun m es => smap_rows m es G (fs.take k) (fs.length - k)
          generalize (fs.take k).map (fun f => Cf.row (cfP G f)) ++ List.replicate (fs.length - k) zF = rows at hb64 hz hs hsm
          unfold zF at hz
          simp only [hcf] at hs
          simp only [namesL] at hnn
          have hNp : f.params.Nodup := (List.nodup_append.1 hnn).1
          have hnn0 : ([] ++ f.params).Nodup := by rw [List.nil_append]; exact hNp
          refine awp_skip ?_; try simp only [RR]
          refine awp_seq ?_
          refine awp_block ?_
          refine awp_seq_k fun K hK => ?_
          refine awp_region rfl ?_
          simp only [f66, f68, hb1, hb64, nb19_b1, nb1_b19, nb64_b1, nb1_b64, e1, List.length_map, hg6, hz, zk, ew, hsm, RR, seval]
          refine awpN_intro fun b12 hn12 => ?_
          have nb12_b1 : b12 ≠ b1 := fun e => by rw [e] at hn12; simp only [hb1, nb19_b1, nb1_b19, nb64_b1, nb1_b64, RR, seval, reduceCtorEq] at hn12
          have nb1_b12 : b1 ≠ b12 := fun e => nb12_b1 e.symm
          have nb12_b64 : b12 ≠ b64 := fun e => by rw [e] at hn12; simp only [hb64, nb64_b1, nb1_b64, RR, seval, reduceCtorEq] at hn12
          have nb64_b12 : b64 ≠ b12 := fun e => nb12_b64 e.symm
          simp only [f66, f68, hb1, hb64, nb19_b1, nb1_b19, nb64_b1, nb1_b64, nb12_b1, nb1_b12, nb12_b64, nb64_b12, e1, List.length_map, hg6, hz, zk, ew, hsm, RR, seval]
          refine hK _ _ ?_; clear hK K
          refine awp_seq_k fun K hK => ?_
          refine awp_region rfl ?_
          simp only [hb1, hb64, nb19_b1, nb1_b19, nb64_b1, nb1_b64, nb12_b1, nb1_b12, nb12_b64, nb64_b12, e1, List.length_map, hg6, hz, zk, ew, hsm, RR, seval]
          refine awpN_intro fun b73 hn73 => ?_
          have nb73_b1 : b73 ≠ b1 := fun e => by rw [e] at hn73; simp only [hb1, nb19_b1, nb1_b19, nb64_b1, nb1_b64, nb12_b1, nb1_b12, RR, seval, reduceCtorEq] at hn73
          have nb1_b73 : b1 ≠ b73 := fun e => nb73_b1 e.symm
          have nb73_b64 : b73 ≠ b64 := fun e => by rw [e] at hn73; simp only [hb64, nb64_b1, nb1_b64, nb12_b64, nb64_b12, RR, seval, reduceCtorEq] at hn73
          have nb64_b73 : b64 ≠ b73 := fun e => nb73_b64 e.symm
          have nb73_b12 : b73 ≠ b12 := fun e => by rw [e] at hn73; simp only [nb12_b1, nb1_b12, nb12_b64, nb64_b12, RR, seval, reduceCtorEq] at hn73
          have nb12_b73 : b12 ≠ b73 := fun e => nb73_b12 e.symm
          simp only [hb1, hb64, nb19_b1, nb1_b19, nb64_b1, nb1_b64, nb12_b1, nb1_b12, nb12_b64, nb64_b12, nb73_b1, nb1_b73, nb73_b64, nb64_b73, nb73_b12, nb12_b73, e1, List.length_map, hg6, hz, zk, ew, hsm, RR, seval]
          refine hK _ _ ?_; clear hK K
          refine awp_seq ?_
          refine awp_seq_k fun K hK => ?_
          refine awp_region rfl ?_
          simp only [hb1, hb64, nb19_b1, nb1_b19, nb64_b1, nb1_b64, nb12_b1, nb1_b12, nb12_b64, nb64_b12, nb73_b1, nb1_b73, nb73_b64, nb64_b73, nb73_b12, nb12_b73, e1, List.length_map, hg6, hz, zk, ew, hsm, RR, seval]
          refine hK _ _ ?_; clear hK K
          refine awp_name fun F11 M11 hfr hH => ?_
          have g2 := hfr 2
          have g3 := hfr 3
          have g10 := hfr 10
          have g11 := hfr 11
          have g12 := hfr 12
          have g13 := hfr 13
          have g66 := hfr 66
          have g67 := hfr 67
          have g68 := hfr 68
          have g75 := hfr 75
          have g76 := hfr 76
          have g77 := hfr 77
          have gb1 := hH b1
          have gb64 := hH b64
          have gb12 := hH b12
          have gb73 := hH b73
          try simp only [f2, f3, f10, f66, f67, f68, hb1, hb64, nb19_b1, nb1_b19, nb64_b1, nb1_b64, nb12_b1, nb1_b12, nb12_b64, nb64_b12, nb73_b1, nb1_b73, nb73_b64, nb64_b73, nb73_b12, nb12_b73, e1, List.length_map, hg6, hz, zk, ew, hsm, RR, seval] at g2 g3 g10 g11 g12 g13 g66 g67 g68 g75 g76 g77 gb1 gb64 gb12 gb73
          have ag6 : agree [2, 3, 10, 66, 67] F10 F11 := agree.same hfr (by repeat (first | exact ag6 | refine agree.upd rfl ?_))
          have e6_b1 := (hH b1).trans (by first | exact e6_b1 | (simp only [nb19_b1, nb1_b19, nb64_b1, nb1_b64, nb12_b1, nb1_b12, nb12_b64, nb64_b12, nb73_b1, nb1_b73, nb73_b64, nb64_b73, nb73_b12, nb12_b73, upd_app, seval]; first | done | exact e6_b1))
          have f2 := g2; clear g2
          have f3 := g3; clear g3
          have f10 := g10; clear g10
          have f11 := g11; clear g11
          have f12 := g12; clear g12
          have f13 := g13; clear g13
          have f66 := g66; clear g66
          have f67 := g67; clear g67
          have f68 := g68; clear g68
          have f75 := g75; clear g75
          have f76 := g76; clear g76
          have f77 := g77; clear g77
          have hb1 := gb1; clear gb1
          have hb64 := gb64; clear gb64
          have hb12 := gb12; clear gb12
          have hb73 := gb73; clear gb73
          clear hfr hH
          refine awp_block ?_
          refine awp_each [2, 3, 10, 11, 12, 13, 66, 67, 68, 75, 76] (f.params.length) (fun j fr M => fr 77 = .int .i64 (j : Nat) ∧ M b1 = M11 b1 ∧ M b64 = M11 b64 ∧ M b12 = M11 b12 ∧ M b73 = some (.amap ((plK true 0 (f.params.take j)).map entP))) ⟨f77, rfl, rfl, rfl, by rw [hb73]; rfl⟩ ?_
          rintro j F12 M12 hk8 ⟨fx, gb1, gb64, gb12, hb73⟩ agx K8 hK8
          have f2 := (agx 2 rfl).trans f2
          have f3 := (agx 3 rfl).trans f3
          have f10 := (agx 10 rfl).trans f10
          have f11 := (agx 11 rfl).trans f11
          have f12 := (agx 12 rfl).trans f12
          have f13 := (agx 13 rfl).trans f13
          have f66 := (agx 66 rfl).trans f66
          have f67 := (agx 67 rfl).trans f67
          have f68 := (agx 68 rfl).trans f68
          have f75 := (agx 75 rfl).trans f75
          have f76 := (agx 76 rfl).trans f76
          have f77 := fx; clear fx
          have hb1 := gb1.trans hb1
          have hb64 := gb64.trans hb64
          have hb12 := gb12.trans hb12
          have ag6 : agree [2, 3, 10, 66, 67] F10 F12 := agree.sub agx rfl ag6
          have e6_b1 := gb1.trans e6_b1
          have ag8 := agree.refl [2, 3, 10, 11, 12, 13, 66, 67, 68, 75, 76] F12
          have e8_b1 := gb1; clear gb1
          have e8_b64 := gb64; clear gb64
          have e8_b12 := gb12; clear gb12
          clear agx
          refine awp_seq_k fun K hK => ?_
          refine awp_region rfl ?_
          simp only [f76, f77, e1, List.length_map, hg6, hz, zk, ew, hsm, RR, seval]
          refine hK _ _ ?_; clear hK K
          refine awp_seq ?_
          refine awp_if _ rfl (fun hc => ?_) (fun hc => ?_)
          · have hlt8 : j < f.params.length := by have := of_decide_eq_true hc; omega
            clear hc
            have hg0 := List.getElem?_eq_getElem hlt8
            generalize f.params[j] = s at hg0
            have hg := getN hg0
            have hni := nodup_mid hnn0 hg0
            have hput := put_pl (plK true 0 (f.params.take j)) s true (j : Int) (by rw [plK_names]; simpa using hni)
            have htk := plK_take true f.params 0 j s hg0
            rw [Nat.zero_add] at htk
            rw [← htk] at hput
            generalize (plK true 0 (f.params.take j)).map entP = es at hput hb73
            refine awp_skip ?_; try simp only [RR]
            refine awp_seq ?_
            refine awp_block ?_
            refine awp_seq_k fun K hK => ?_
            refine awp_region rfl ?_
            simp only [f75, f77, hb1, hb64, hb12, hb73, nb19_b1, nb1_b19, nb64_b1, nb1_b64, nb12_b1, nb1_b12, nb12_b64, nb64_b12, nb73_b1, nb1_b73, nb73_b64, nb64_b73, nb73_b12, nb12_b73, e1, List.length_map, hg6, hz, zk, ew, hsm, hg, hput, RR, seval]
            refine hK _ _ ?_; clear hK K
            refine awp_region rfl ?_
            simp only [f13, hb1, hb64, hb12, hb73, nb19_b1, nb1_b19, nb64_b1, nb1_b64, nb12_b1, nb1_b12, nb12_b64, nb64_b12, nb73_b1, nb1_b73, nb73_b64, nb64_b73, nb73_b12, nb12_b73, e1, List.length_map, hg6, hz, zk, ew, hsm, hg, hput, RR, seval]
            refine awp_region rfl ?_
            simp only [f77, e1, List.length_map, hg6, hz, zk, ew, hsm, hg, hput, RR, seval]
            try rw [IntWalk.i64_in _ (by omega)]
            refine hK8 _ _ hlt8 ⟨by first | rfl | (simp only [upd_app, seval]; rfl), (by first | exact e8_b1 | (simp only [nb19_b1, nb1_b19, nb64_b1, nb1_b64, nb12_b1, nb1_b12, nb12_b64, nb64_b12, nb73_b1, nb1_b73, nb73_b64, nb64_b73, nb73_b12, nb12_b73, upd_app, seval]; first | done | exact e8_b1)), (by first | exact e8_b64 | (simp only [nb19_b1, nb1_b19, nb64_b1, nb1_b64, nb12_b1, nb1_b12, nb12_b64, nb64_b12, nb73_b1, nb1_b73, nb73_b64, nb64_b73, nb73_b12, nb12_b73, upd_app, seval]; first | done | exact e8_b64)), (by first | exact e8_b12 | (simp only [nb19_b1, nb1_b19, nb64_b1, nb1_b64, nb12_b1, nb1_b12, nb12_b64, nb64_b12, nb73_b1, nb1_b73, nb73_b64, nb64_b73, nb73_b12, nb12_b73, upd_app, seval]; first | done | exact e8_b12)), upd_same _ _ _⟩ (by repeat (first | exact ag8 | refine agree.upd rfl ?_))
          · have hkn8 : j = f.params.length := by have := of_decide_eq_false hc; omega
            clear hc
            rw [hkn8, List.take_length] at hb73
            refine awp_exit ?_; simp only [RR, seval]
            refine awp_seq ?_
            refine awp_seq_k fun K hK => ?_
            refine awp_region rfl ?_
            simp only [f12, hb1, hb64, hb12, hb73, nb19_b1, nb1_b19, nb64_b1, nb1_b64, nb12_b1, nb1_b12, nb12_b64, nb64_b12, nb73_b1, nb1_b73, nb73_b64, nb64_b73, nb73_b12, nb12_b73, e1, List.length_map, hg6, hz, zk, ew, hsm, RR, seval]
            refine hK _ _ ?_; clear hK K
            refine awp_name fun F13 M13 hfr hH => ?_
            have g2 := hfr 2
            have g3 := hfr 3
            have g10 := hfr 10
            have g11 := hfr 11
            have g12 := hfr 12
            have g13 := hfr 13
            have g66 := hfr 66
            have g67 := hfr 67
            have g68 := hfr 68
            have g75 := hfr 75
            have g76 := hfr 76
            have g77 := hfr 77
            have g88 := hfr 88
            have g89 := hfr 89
            have g90 := hfr 90
            have gb1 := hH b1
            have gb64 := hH b64
            have gb12 := hH b12
            have gb73 := hH b73
            try simp only [f2, f3, f10, f11, f12, f13, f66, f67, f68, f75, f76, f77, hb1, hb64, hb12, hb73, nb19_b1, nb1_b19, nb64_b1, nb1_b64, nb12_b1, nb1_b12, nb12_b64, nb64_b12, nb73_b1, nb1_b73, nb73_b64, nb64_b73, nb73_b12, nb12_b73, e1, List.length_map, hg6, hz, zk, ew, hsm, RR, seval] at g2 g3 g10 g11 g12 g13 g66 g67 g68 g75 g76 g77 g88 g89 g90 gb1 gb64 gb12 gb73
            have ag6 : agree [2, 3, 10, 66, 67] F10 F13 := agree.same hfr (by repeat (first | exact ag6 | refine agree.upd rfl ?_))
            have e6_b1 := (hH b1).trans (by first | exact e6_b1 | (simp only [nb19_b1, nb1_b19, nb64_b1, nb1_b64, nb12_b1, nb1_b12, nb12_b64, nb64_b12, nb73_b1, nb1_b73, nb73_b64, nb64_b73, nb73_b12, nb12_b73, upd_app, seval]; first | done | exact e6_b1))
            have f2 := g2; clear g2
            have f3 := g3; clear g3
            have f10 := g10; clear g10
            have f11 := g11; clear g11
            have f12 := g12; clear g12
            have f13 := g13; clear g13
            have f66 := g66; clear g66
            have f67 := g67; clear g67
            have f68 := g68; clear g68
            have f75 := g75; clear g75
            have f76 := g76; clear g76
            have f77 := g77; clear g77
            have f88 := g88; clear g88
            have f89 := g89; clear g89
            have f90 := g90; clear g90
            have hb1 := gb1; clear gb1
            have hb64 := gb64; clear gb64
            have hb12 := gb12; clear gb12
            have hb73 := gb73; clear gb73
            clear hfr hH
            refine awp_block ?_
            refine awp_each [2, 3, 10, 11, 12, 13, 66, 67, 68, 75, 76, 77, 88, 89] (f.locs.length) (fun j fr M => fr 90 = .int .i64 (j : Nat) ∧ M b1 = M13 b1 ∧ M b64 = M13 b64 ∧ M b12 = M13 b12 ∧ M b73 = some (.amap ((plK true 0 f.params ++ plK true f.params.length (f.locs.take j)).map entP))) ⟨f90, rfl, rfl, rfl, by rw [hb73]; simp [plK]⟩ ?_
            rintro j F14 M14 hk10 ⟨fx, gb1, gb64, gb12, hb73⟩ agx K10 hK10
            have f2 := (agx 2 rfl).trans f2
            have f3 := (agx 3 rfl).trans f3
            have f10 := (agx 10 rfl).trans f10
            have f11 := (agx 11 rfl).trans f11
            have f12 := (agx 12 rfl).trans f12
            have f13 := (agx 13 rfl).trans f13
            have f66 := (agx 66 rfl).trans f66
            have f67 := (agx 67 rfl).trans f67
            have f68 := (agx 68 rfl).trans f68
            have f75 := (agx 75 rfl).trans f75
            have f76 := (agx 76 rfl).trans f76
            have f77 := (agx 77 rfl).trans f77
            have f88 := (agx 88 rfl).trans f88
            have f89 := (agx 89 rfl).trans f89
            have f90 := fx; clear fx
            have hb1 := gb1.trans hb1
            have hb64 := gb64.trans hb64
            have hb12 := gb12.trans hb12
            have ag6 : agree [2, 3, 10, 66, 67] F10 F14 := agree.sub agx rfl ag6
            have e6_b1 := gb1.trans e6_b1
            have ag10 := agree.refl [2, 3, 10, 11, 12, 13, 66, 67, 68, 75, 76, 77, 88, 89] F14
            have e10_b1 := gb1; clear gb1
            have e10_b64 := gb64; clear gb64
            have e10_b12 := gb12; clear gb12
            clear agx
            refine awp_seq_k fun K hK => ?_
            refine awp_region rfl ?_
            simp only [f89, f90, e1, List.length_map, hg6, hz, zk, ew, hsm, RR, seval]
            refine hK _ _ ?_; clear hK K
            refine awp_seq ?_
            refine awp_if _ rfl (fun hc => ?_) (fun hc => ?_)
            · have hlt10 : j < f.locs.length := by have := of_decide_eq_true hc; omega
              clear hc
              have hg0 := List.getElem?_eq_getElem hlt10
              generalize f.locs[j] = s at hg0
              have hg := getN hg0
              have hni := nodup_mid hnn hg0
              have ej : IntKind.wrap .i64 ((f.params.length : Int) + (j : Int)) = ((f.params.length + j : Nat) : Int) := by rw [IntWalk.i64_in _ (by omega)]; omega
              have hput := put_pl (plK true 0 f.params ++ plK true f.params.length (f.locs.take j)) s true ((f.params.length + j : Nat) : Int) (by rw [List.map_append, plK_names, plK_names]; exact hni)
              have htk := plK_take true f.locs f.params.length j s hg0
              rw [List.append_assoc, ← htk] at hput
              generalize (plK true 0 f.params ++ plK true f.params.length (f.locs.take j)).map entP = es at hput hb73
              refine awp_skip ?_; try simp only [RR]
              refine awp_seq ?_
              refine awp_block ?_
              refine awp_seq_k fun K hK => ?_
              refine awp_region rfl ?_
              simp only [f88, f90, hb1, hb64, hb12, hb73, nb19_b1, nb1_b19, nb64_b1, nb1_b64, nb12_b1, nb1_b12, nb12_b64, nb64_b12, nb73_b1, nb1_b73, nb73_b64, nb64_b73, nb73_b12, nb12_b73, e1, List.length_map, hg6, hz, zk, ew, hsm, hg, hput, ej, RR, seval]
              refine hK _ _ ?_; clear hK K
              refine awp_region rfl ?_
              simp only [f12, f13, hb1, hb64, hb12, hb73, nb19_b1, nb1_b19, nb64_b1, nb1_b64, nb12_b1, nb1_b12, nb12_b64, nb64_b12, nb73_b1, nb1_b73, nb73_b64, nb64_b73, nb73_b12, nb12_b73, e1, List.length_map, hg6, hz, zk, ew, hsm, hg, hput, ej, RR, seval]
              refine awp_region rfl ?_
              simp only [f90, e1, List.length_map, hg6, hz, zk, ew, hsm, hg, hput, ej, RR, seval]
              try rw [IntWalk.i64_in _ (by omega)]
              refine hK10 _ _ hlt10 ⟨by first | rfl | (simp only [upd_app, seval]; rfl), (by first | exact e10_b1 | (simp only [nb19_b1, nb1_b19, nb64_b1, nb1_b64, nb12_b1, nb1_b12, nb12_b64, nb64_b12, nb73_b1, nb1_b73, nb73_b64, nb64_b73, nb73_b12, nb12_b73, upd_app, seval]; first | done | exact e10_b1)), (by first | exact e10_b64 | (simp only [nb19_b1, nb1_b19, nb64_b1, nb1_b64, nb12_b1, nb1_b12, nb12_b64, nb64_b12, nb73_b1, nb1_b73, nb73_b64, nb64_b73, nb73_b12, nb12_b73, upd_app, seval]; first | done | exact e10_b64)), (by first | exact e10_b12 | (simp only [nb19_b1, nb1_b19, nb64_b1, nb1_b64, nb12_b1, nb1_b12, nb12_b64, nb64_b12, nb73_b1, nb1_b73, nb73_b64, nb64_b73, nb73_b12, nb12_b73, upd_app, seval]; first | done | exact e10_b12)), by simp only [upd_app, seval]; first | rfl | done⟩ (by repeat (first | exact ag10 | refine agree.upd rfl ?_))
            · have hkn10 : j = f.locs.length := by have := of_decide_eq_false hc; omega
              clear hc
              rw [hkn10, List.take_length] at hb73
              have hin : plK true 0 f.params ++ plK true f.params.length f.locs = inP f := by unfold inP; rw [plK_app, Nat.zero_add]
              rw [hin] at hb73
              refine awp_exit ?_; simp only [RR, seval]
              refine awp_name fun F15 M15 hfr hH => ?_
              have g2 := hfr 2
              have g3 := hfr 3
              have g10 := hfr 10
              have g11 := hfr 11
              have g12 := hfr 12
              have g13 := hfr 13
              have g66 := hfr 66
              have g67 := hfr 67
              have g68 := hfr 68
              have g75 := hfr 75
              have g76 := hfr 76
              have g77 := hfr 77
              have g88 := hfr 88
              have g89 := hfr 89
              have g90 := hfr 90
              have gb1 := hH b1
              have gb64 := hH b64
              have gb12 := hH b12
              have gb73 := hH b73
              try simp only [f2, f3, f10, f11, f12, f13, f66, f67, f68, f75, f76, f77, f88, f89, f90, hb1, hb64, hb12, hb73, nb19_b1, nb1_b19, nb64_b1, nb1_b64, nb12_b1, nb1_b12, nb12_b64, nb64_b12, nb73_b1, nb1_b73, nb73_b64, nb64_b73, nb73_b12, nb12_b73, e1, List.length_map, hg6, hz, zk, ew, hsm, RR, seval] at g2 g3 g10 g11 g12 g13 g66 g67 g68 g75 g76 g77 g88 g89 g90 gb1 gb64 gb12 gb73
              have ag6 : agree [2, 3, 10, 66, 67] F10 F15 := agree.same hfr (by repeat (first | exact ag6 | refine agree.upd rfl ?_))
              have e6_b1 := (hH b1).trans (by first | exact e6_b1 | (simp only [nb19_b1, nb1_b19, nb64_b1, nb1_b64, nb12_b1, nb1_b12, nb12_b64, nb64_b12, nb73_b1, nb1_b73, nb73_b64, nb64_b73, nb73_b12, nb12_b73, upd_app, seval]; first | done | exact e6_b1))
              have f2 := g2; clear g2
              have f3 := g3; clear g3
              have f10 := g10; clear g10
              have f11 := g11; clear g11
              have f12 := g12; clear g12
              have f13 := g13; clear g13
              have f66 := g66; clear g66
              have f67 := g67; clear g67
              have f68 := g68; clear g68
              have f75 := g75; clear g75
              have f76 := g76; clear g76
              have f77 := g77; clear g77
              have f88 := g88; clear g88
              have f89 := g89; clear g89
              have f90 := g90; clear g90
              have hb1 := gb1; clear gb1
              have hb64 := gb64; clear gb64
              have hb12 := gb12; clear gb12
              have hb73 := gb73; clear gb73
              clear hfr hH
              refine awp_sealMap hb73 ?_
              refine awp_name fun F16 M16 hfr hH => ?_
              have g2 := hfr 2
              have g3 := hfr 3
              have g10 := hfr 10
              have g11 := hfr 11
              have g12 := hfr 12
              have g13 := hfr 13
              have g66 := hfr 66
              have g67 := hfr 67
              have g68 := hfr 68
              have g75 := hfr 75
              have g76 := hfr 76
              have g77 := hfr 77
              have g88 := hfr 88
              have g89 := hfr 89
              have g90 := hfr 90
              have gb1 := hH b1
              have gb64 := hH b64
              have gb12 := hH b12
              try simp only [SM, List.map_cons, List.map_nil, Option.map_some, f2, f3, f10, f11, f12, f13, f66, f67, f68, f75, f76, f77, f88, f89, f90, hb1, hb64, hb12, nb19_b1, nb1_b19, nb64_b1, nb1_b64, nb12_b1, nb1_b12, nb12_b64, nb64_b12, nb73_b1, nb1_b73, nb73_b64, nb64_b73, nb73_b12, nb12_b73, e1, List.length_map, hg6, hz, zk, ew, hsm, RR, seval] at g2 g3 g10 g11 g12 g13 g66 g67 g68 g75 g76 g77 g88 g89 g90 gb1 gb64 gb12
              have ag6 : agree [2, 3, 10, 66, 67] F10 F16 := agree.cons (g2.trans (f2.symm.trans (ag6 2 rfl))) <| agree.cons (g3.trans (f3.symm.trans (ag6 3 rfl))) <| agree.cons (g10.trans (f10.symm.trans (ag6 10 rfl))) <| agree.cons (g66.trans (f66.symm.trans (ag6 66 rfl))) <| agree.cons (g67.trans (f67.symm.trans (ag6 67 rfl))) <| agree.nil _ _
              have e6_b1 := by first | exact (hH b1).trans (by first | exact e6_b1 | (simp only [nb19_b1, nb1_b19, nb64_b1, nb1_b64, nb12_b1, nb1_b12, nb12_b64, nb64_b12, nb73_b1, nb1_b73, nb73_b64, nb64_b73, nb73_b12, nb12_b73, upd_app, seval]; first | done | exact e6_b1)) | exact gb1.trans (hb1.symm.trans e6_b1)
              have f2 := g2; clear g2
              have f3 := g3; clear g3
              have f10 := g10; clear g10
              have f11 := g11; clear g11
              have f12 := g12; clear g12
              have f13 := g13; clear g13
              have f66 := g66; clear g66
              have f67 := g67; clear g67
              have f68 := g68; clear g68
              have f75 := g75; clear g75
              have f76 := g76; clear g76
              have f77 := g77; clear g77
              have f88 := g88; clear g88
              have f89 := g89; clear g89
              have f90 := g90; clear g90
              have hb1 := gb1; clear gb1
              have hb64 := gb64; clear gb64
              have hb12 := gb12; clear gb12
              clear hfr hH
              refine awp_seq_k fun K hK => ?_
              refine awp_region rfl ?_
              simp only [f3, f13, hb1, hb64, hb12, nb19_b1, nb1_b19, nb64_b1, nb1_b64, nb12_b1, nb1_b12, nb12_b64, nb64_b12, nb73_b1, nb1_b73, nb73_b64, nb64_b73, nb73_b12, nb12_b73, e1, List.length_map, hg6, hz, zk, ew, hsm, RR, seval]
              refine awpN_intro fun b18 hn18 => ?_
              have nb18_b1 : b18 ≠ b1 := fun e => by rw [e] at hn18; simp only [hb1, nb19_b1, nb1_b19, nb64_b1, nb1_b64, nb12_b1, nb1_b12, nb73_b1, nb1_b73, RR, seval, reduceCtorEq] at hn18
              have nb1_b18 : b1 ≠ b18 := fun e => nb18_b1 e.symm
              have nb18_b64 : b18 ≠ b64 := fun e => by rw [e] at hn18; simp only [hb64, nb64_b1, nb1_b64, nb12_b64, nb64_b12, nb73_b64, nb64_b73, RR, seval, reduceCtorEq] at hn18
              have nb64_b18 : b64 ≠ b18 := fun e => nb18_b64 e.symm
              have nb18_b12 : b18 ≠ b12 := fun e => by rw [e] at hn18; simp only [hb12, nb12_b1, nb1_b12, nb12_b64, nb64_b12, nb73_b12, nb12_b73, RR, seval, reduceCtorEq] at hn18
              have nb12_b18 : b12 ≠ b18 := fun e => nb18_b12 e.symm
              simp only [f3, f13, hb1, hb64, hb12, nb19_b1, nb1_b19, nb64_b1, nb1_b64, nb12_b1, nb1_b12, nb12_b64, nb64_b12, nb73_b1, nb1_b73, nb73_b64, nb64_b73, nb73_b12, nb12_b73, nb18_b1, nb1_b18, nb18_b64, nb64_b18, nb18_b12, nb12_b18, e1, List.length_map, hg6, hz, zk, ew, hsm, RR, seval]
              refine hK _ _ ?_; clear hK K
              refine awp_name fun F17 M17 hfr hH => ?_
              have g2 := hfr 2
              have g3 := hfr 3
              have g10 := hfr 10
              have g11 := hfr 11
              have g12 := hfr 12
              have g13 := hfr 13
              have g18 := hfr 18
              have g66 := hfr 66
              have g67 := hfr 67
              have g68 := hfr 68
              have g75 := hfr 75
              have g76 := hfr 76
              have g77 := hfr 77
              have g88 := hfr 88
              have g89 := hfr 89
              have g90 := hfr 90
              have gb1 := hH b1
              have gb64 := hH b64
              have gb12 := hH b12
              have gb18 := hH b18
              try simp only [f2, f3, f10, f11, f12, f13, f66, f67, f68, f75, f76, f77, f88, f89, f90, hb1, hb64, hb12, nb19_b1, nb1_b19, nb64_b1, nb1_b64, nb12_b1, nb1_b12, nb12_b64, nb64_b12, nb73_b1, nb1_b73, nb73_b64, nb64_b73, nb73_b12, nb12_b73, nb18_b1, nb1_b18, nb18_b64, nb64_b18, nb18_b12, nb12_b18, e1, List.length_map, hg6, hz, zk, ew, hsm, RR, seval] at g2 g3 g10 g11 g12 g13 g18 g66 g67 g68 g75 g76 g77 g88 g89 g90 gb1 gb64 gb12 gb18
              have ag6 : agree [2, 3, 10, 66, 67] F10 F17 := agree.same hfr (by repeat (first | exact ag6 | refine agree.upd rfl ?_))
              have e6_b1 := (hH b1).trans (by first | exact e6_b1 | (simp only [nb19_b1, nb1_b19, nb64_b1, nb1_b64, nb12_b1, nb1_b12, nb12_b64, nb64_b12, nb73_b1, nb1_b73, nb73_b64, nb64_b73, nb73_b12, nb12_b73, nb18_b1, nb1_b18, nb18_b64, nb64_b18, nb18_b12, nb12_b18, upd_app, seval]; first | done | exact e6_b1))
              have f2 := g2; clear g2
              have f3 := g3; clear g3
              have f10 := g10; clear g10
              have f11 := g11; clear g11
              have f12 := g12; clear g12
              have f13 := g13; clear g13
              have f18 := g18; clear g18
              have f66 := g66; clear g66
              have f67 := g67; clear g67
              have f68 := g68; clear g68
              have f75 := g75; clear g75
              have f76 := g76; clear g76
              have f77 := g77; clear g77
              have f88 := g88; clear g88
              have f89 := g89; clear g89
              have f90 := g90; clear g90
              have hb1 := gb1; clear gb1
              have hb64 := gb64; clear gb64
              have hb12 := gb12; clear gb12
              have hb18 := gb18; clear gb18
              clear hfr hH
              refine awp_region_draw2 (fun x => x ≠ b12 ∧ x ≠ b18 ∧ x ≠ b1) [(0, 3), (1, 3), (2, 3), (3, 0), (4, 3), (5, 3), (6, 0), (7, 3), (8, 3), (9, 1), (10, 3), (11, 1), (12, 1), (13, 3), (14, 3)] [(15, 1)] draws (by kernel_rfl) rfl rfl ?_
              simp only [emitF, markOf, EM, f10, f11, f12, f18, hb1, hb64, hb12, hb18, nb19_b1, nb1_b19, nb64_b1, nb1_b64, nb12_b1, nb1_b12, nb12_b64, nb64_b12, nb73_b1, nb1_b73, nb73_b64, nb64_b73, nb73_b12, nb12_b73, nb18_b1, nb1_b18, nb18_b64, nb64_b18, nb18_b12, nb12_b18, e1, List.length_map, hg6, hz, zk, ew, hsm, RR, seval]
              refine awpC_pure' (hkd) ?_
              simp only [emitF, markOf, EM, f10, f11, f12, f18, hb1, hb64, hb12, hb18, nb19_b1, nb1_b19, nb64_b1, nb1_b64, nb12_b1, nb1_b12, nb12_b64, nb64_b12, nb73_b1, nb1_b73, nb73_b64, nb64_b73, nb73_b12, nb12_b73, nb18_b1, nb1_b18, nb18_b64, nb64_b18, nb18_b12, nb12_b18, e1, List.length_map, hg6, hz, zk, ew, hsm, RR, seval]
              refine awp_region rfl ?_
              simp only [f68, e1, List.length_map, hg6, hz, zk, ew, hsm, RR, seval]
              try rw [IntWalk.i64_in _ (by omega)]
              refine hK6 _ _ hlt6 ⟨by first | rfl | (simp only [upd_app, seval]; rfl), (by first | exact e6_b1 | (simp only [nb19_b1, nb1_b19, nb64_b1, nb1_b64, nb12_b1, nb1_b12, nb12_b64, nb64_b12, nb73_b1, nb1_b73, nb73_b64, nb64_b73, nb73_b12, nb12_b73, nb18_b1, nb1_b18, nb18_b64, nb64_b18, nb18_b12, nb12_b18, upd_app, seval]; first | done | exact e6_b1)), by rw [← hs]; first | exact upd_same _ _ _ | (simp only [upd_app, seval]; rfl)⟩ (by repeat (first | exact ag6 | refine agree.upd rfl ?_))
        · have hkn6 : k = fs.length := by have := of_decide_eq_false hc; omega
          clear hc
          rw [hkn6, List.take_length, Nat.sub_self, List.replicate_zero, List.append_nil] at hb64
          have emm : fs.map (fun f => Cf.row (cfP G f)) = (fs.map (cfP G)).map Cf.row := by rw [List.map_map]; rfl
          rw [emm] at hb64
          refine awp_exit ?_; simp only [RR, seval]
          refine awp_seq_k fun K hK => ?_
          refine awp_region rfl ?_
          simp only [f10, e1, List.length_map, RR, seval]
          refine hK _ _ ?_; clear hK K
          refine awp_ret ?_; simp only [bodyQ, aresult, ares, f2, e1, List.length_map, RR, seval]
          exact OwnL.gives1 (.inr ⟨b64, by rw [List.length_map, List.length_map], hb64⟩) rfl
          skip
end Go.Proofs.Ytlokndnkpleegaa
