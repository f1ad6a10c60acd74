/- Chapter 18: MeaningPuts. -/
import Derived.Test.YtlokndnkpleegaaM18u
import Derived.Test.YtlokndnkpleegaaAlSf
set_option linter.unusedSimpArgs false
set_option linter.unusedVariables false
set_option maxRecDepth 10000
namespace Go.Al
def putC (c : UInt8) : Sm := putS (numX ((c.toNat : Int) + 256))
theorem wrap_in {n : Int} (h0 : 0 ≤ n) (h1 : n ≤ 4294967295) : IntKind.wrap .u32 n = n := by
  have h : IntKind.wrap .u32 n = n % 4294967296 := by simp [IntKind.wrap, IntKind.signed, IntKind.bits]
  rw [h]; omega
theorem byte_u8 (c : UInt8) : UInt8.ofNat (IntKind.wrap .u8 ((c.toNat : Int) + 256)).toNat = c := by
  have h : IntKind.wrap .u8 ((c.toNat : Int) + 256) = ((c.toNat : Int) + 256) % 256 := by simp [IntKind.wrap, IntKind.signed, IntKind.bits]
  have hc : c.toNat < 256 := c.toNat_lt
  have h2 : ((c.toNat : Int) + 256) % 256 = (c.toNat : Int) := by omega
  rw [h, h2]
  simp
theorem puts_ev (cx : Cx) (rs : Str → Bool × Int) (ow : List Int) : ∀ (s : Str) (st : RS), st.out.length + s.length ≤ 65536 → evL cx (s.length + 3) rs ow (s.map putC) st = some (.val (none, ow) { st with out := st.out ++ s })
  | [], st, _ => by simp [evL]
  | c :: s, st, h => by
    rw [List.length_cons] at h
    have ih := puts_ev cx rs ow s { st with out := st.out ++ [c] } (by rw [List.length_append, List.length_singleton]; omega)
    rw [List.length_cons, List.map_cons, show s.length + 1 + 3 = (s.length + 3) + 1 from by omega, evL]
    have he : evS cx (s.length + 3) rs ow (putC c) st = some (.val (none, ow) { st with out := st.out ++ [c] }) := by
      rw [putC, putS, numX, evS]
      simp only [show ¬ ((3 : Int) = 1) from by decide, show ¬ ((3 : Int) = 2) from by decide, if_false, if_true, List.getElem?_cons_zero, evE, bindR, putR, byte_u8]
      rw [if_neg (by omega)]
    rw [he]
    simp only [bindR]
    rw [ih, List.append_assoc]
    rfl
theorem putC_ok (c : UInt8) : (putC c).ok := putS_ok (numX_ok (by have := c.toNat_lt; simp only [u32R]; omega))
theorem szS_putC : ∀ s : Str, szS (s.map putC) = 2 * s.length
  | [] => by simp [szS]
  | c :: s => by
    have h := szS_putC s
    have h2 : (putC c).sz = 2 := by simp [putC, putS, numX, Sm.sz, Ex.sz, szE, szS]
    simp only [List.map_cons, szS, h, h2, List.length_cons]; omega
end Go.Al
namespace Go.Proofs.Ytlokndnkpleegaa
open Go.Al
theorem puts_run (s : Str) (hs : s.length ≤ 60) : runR (cxP (progP [97] (s.map putC)) [] 0) (s.length + 3) (progP [97] (s.map putC)).vars.length ((progP [97] (s.map putC)).arrs.map fun a => a.size.toNat) = some (1, s, 0) := by
  have h := puts_ev (cxP (progP [97] (s.map putC)) [] 0) (cfP (outP (progP [97] (s.map putC))) ⟨mainN, [], [], false, s.map putC⟩).res [] s (RS.init 1 []) (by simp [RS.init]; omega)
  unfold runR
  exact (congrArg (Option.map endR) h).trans (by simp [endR, RS.init])
theorem MeaningPuts_con (s : Str) : PCon env 5 [.str s] (.bool true) := by
  by_cases h60 : s.length ≤ 60
  · have d1 : decide (60 < (s.length : Int)) = false := decide_eq_false (by omega)
    have hr := Run_con _ (progP_ok (v := [97]) (l := s.map putC) (by simp [fitL]) (by decide) ⟨by simp only [fitL, List.length_map]; omega, fun x hx => by obtain ⟨c, _, rfl⟩ := List.mem_map.1 hx; exact putC_ok c⟩ (by rw [szS_putC]; omega)) [] (by simp) 0 (by simp [i64R]) (puts_run s h60)
    have hp := lprog_con [97] (s.map putC)
    simp only [progP, Pg.av, Pg.row, Fu.row, List.map_cons, List.map_nil, strRow, resV, mainN] at hr hp
    refine con_of 34 [.tmp 2] Try.func5 rfl rfl rfl rfl ?_
    refine awp_seq_k fun K hK => ?_
    refine awp_region rfl ?_
    simp only [d1, RR, seval]
    refine hK _ _ ?_; clear hK K
    refine awp_seq ?_
    refine awp_seq_k fun K hK => ?_
    refine awp_region rfl ?_
    simp only [d1, RR, seval]
    refine hK _ _ ?_; clear hK K
    refine awp_if false rfl (fun hc => by cases hc) (fun _ => ?_)
    refine awp_skip ?_; try simp only [RR]
    refine awp_seq_k fun K hK => ?_
    refine awp_region rfl ?_
    simp only [d1, RR, seval]
    refine hK _ _ ?_; clear hK K
    refine awp_seq ?_
    refine awp_seq_k fun K hK => ?_
    refine awp_region rfl ?_
    simp only [d1, RR, seval]
    refine hK _ _ ?_; clear hK K
    refine awp_name fun F1 M1 hfr hH => ?_
    have g0 := hfr 0
    have g2 := hfr 2
    have g3 := hfr 3
    have g4 := hfr 4
    try simp only [d1, RR, seval] at g0 g2 g3 g4
    have f0 := g0; clear g0
    have f2 := g2; clear g2
    have f3 := g3; clear g3
    have f4 := g4; clear g4
    clear hfr hH
    refine awp_block ?_
    refine awp_each [0, 2] (s.length) (fun k fr M => fr 4 = .int .i64 (k : Nat) ∧ OwnL 5 (fr 3) (((s.take k).map putC).map Sm.row) M) ⟨f4, .inl ⟨f3, rfl⟩⟩ ?_
    rintro k F2 M2 hk0 ⟨fx, hown⟩ agx K0 hK0
    have f0 := (agx 0 rfl).trans f0
    have f2 := (agx 2 rfl).trans f2
    have f4 := fx; clear fx
    have ag0 := agree.refl [0, 2] F2
    clear agx
    obtain ⟨v3, f3⟩ : ∃ v, F2 3 = v := ⟨_, rfl⟩
    rw [f3] at hown
    refine awp_seq ?_
    refine awp_seq_k fun K hK => ?_
    refine awp_region rfl ?_
    simp only [f0, f2, f4, f3, d1, RR, seval]
    refine hK _ _ ?_; clear hK K
    refine awp_if _ rfl (fun hc => ?_) (fun hc => ?_)
    · have hlt0 : k < s.length := by have := of_decide_eq_true hc; omega
      clear hc
      have hg := List.getElem?_eq_getElem hlt0
      have htk : s.take (k + 1) = s.take k ++ [s[k]] := List.take_succ_eq_append_getElem hlt0
      have htl : (s.take k).length ≤ s.length := by rw [List.length_take]; omega
      generalize s[k] = c at hg htk
      have hcl : c.toNat < 256 := c.toNat_lt
      have hwr : IntKind.wrap .u32 ((c.toNat : Int) + 256) = (c.toNat : Int) + 256 := wrap_in (by omega) (by omega)
      have hw0 : IntKind.wrap .u32 (c.toNat : Int) = (c.toNat : Int) := wrap_in (by omega) (by omega)
      have hn := lnum_con ((c.toNat : Int) + 256)
      have hq := lput_con (numX ((c.toNat : Int) + 256))
      simp only [putS, numX, Ex.row_eq, Sm.row_eq, List.map_cons, List.map_nil, Ex.kind, Ex.op, Ex.num, Ex.name, Ex.kids, Sm.kind, Sm.name, Sm.es, Sm.thn, Sm.els] at hn hq
      have hrow : (putC c).row = [.int .i64 3, .str [], .isl 5 [[.int .i64 1, .int .i64 0, .int .u32 ((c.toNat : Int) + 256), .str [], .isl 5 []]], .isl 5 [], .isl 5 []] := by rw [Sm.row_eq, putC, putS, numX]; simp only [Sm.kind, Sm.name, Sm.es, Sm.thn, Sm.els, List.map_cons, List.map_nil, Ex.row, rowsE]
      refine awp_skip ?_; try simp only [RR]
      refine awp_seq ?_
      refine awp_block ?_
      refine awp_region rfl ?_
      simp only [f0, f2, f4, f3, d1, hg, hw0, hwr, RR, seval]
      refine awpC_pure' (hn) ?_
      simp only [f0, f2, f4, f3, d1, hg, hw0, hwr, RR, seval]
      refine awpC_pure' (hq) ?_
      simp only [f0, f2, f4, f3, d1, hg, hw0, hwr, RR, seval]
      refine awpB_sealed ?_
      simp only [f0, f2, f4, f3, d1, hg, hw0, hwr, RR, seval]
      refine awpA_own hown (by simp only [List.length_map, List.length_cons, List.length_nil]; omega) (fun _ => trivial) fun v7 M3 hown' hk' => ?_
      simp only [f0, f2, f4, f3, d1, hg, hw0, hwr, RR, seval]
      refine awp_region rfl ?_
      simp only [f0, f2, f4, f3, d1, hg, hw0, hwr, RR, seval]
      try rw [IntWalk.i64_in _ (by omega)]
      refine hK0 _ _ hlt0 ⟨by first | rfl | (simp only [upd_app, seval]; rfl), by rw [htk, List.map_append, List.map_append, List.map_singleton, List.map_singleton, hrow]; exact hown'⟩ (by repeat (first | exact ag0 | refine agree.upd rfl ?_))
    · have hkn0 : k = s.length := by have := of_decide_eq_false hc; omega
      clear hc
      refine awp_exit ?_; simp only [RR, seval]
      refine awp_name fun F4 M4 hfr hH => ?_
      have g0 := hfr 0
      have g2 := hfr 2
      have g3 := hfr 3
      try simp only [f0, f2, f4, f3, d1, RR, seval] at g0 g2 g3
      have hown := hown.same hH
      have f0 := g0; clear g0
      have f2 := g2; clear g2
      have f3 := g3; clear g3
      clear hfr hH
      rw [hkn0, List.take_length] at hown
      refine awp_seal2 (i := 3) (by rw [f3]; exact hown) fun F5 M5 hs hf' hk' => ?_
      have g0 := (hf' 0 (by decide) (by rw [f0]; first | exact apart_ptr _ _ _ _ _ | exact apart_int _ _ _ | exact apart_str _ _ | exact apart_isl _ _ _ | exact apart_bool _ _ | exact apart_bool' _ | exact apart_undef _ | exact apart_tup _ _ | exact apart_mp _ _ | assumption)).trans f0
      have g2 := (hf' 2 (by decide) (by rw [f2]; first | exact apart_ptr _ _ _ _ _ | exact apart_int _ _ _ | exact apart_str _ _ | exact apart_isl _ _ _ | exact apart_bool _ _ | exact apart_bool' _ | exact apart_undef _ | exact apart_tup _ _ | exact apart_mp _ _ | assumption)).trans f2
      have g3 := hs
      have f0 := g0; clear g0
      have f2 := g2; clear g2
      have f3 := g3; clear g3
      clear hs hf' hk'
      refine awp_seq_k fun K hK => ?_
      refine awp_region rfl ?_
      simp only [f0, f2, f3, d1, RR, seval]
      refine awpC_pure' (awake_con) ?_
      simp only [f0, f2, f3, d1, RR, seval]
      refine awpC_pure' (hp) ?_
      simp only [f0, f2, f3, d1, RR, seval]
      refine awpC_pure' (hr) ?_
      simp only [f0, f2, f3, d1, RR, seval]
      refine hK _ _ ?_; clear hK K
      refine awp_ret ?_; simp only [bodyQ, aresult, ares, f0, f2, f3, d1, RR, seval]
      refine Gives.pure ?_
      rfl
  · have d1 : decide (60 < (s.length : Int)) = true := decide_eq_true (by omega)
    refine con_of 34 [.tmp 2] Try.func5 rfl rfl rfl rfl ?_
    refine awp_seq_k fun K hK => ?_
    refine awp_region rfl ?_
    simp only [d1, RR, seval]
    refine hK _ _ ?_; clear hK K
    refine awp_seq ?_
    refine awp_seq_k fun K hK => ?_
    refine awp_region rfl ?_
    simp only [d1, RR, seval]
    refine hK _ _ ?_; clear hK K
    refine awp_if true rfl (fun _ => ?_) (fun hc => by cases hc)
    refine awp_seq_k fun K hK => ?_
    refine awp_region rfl ?_
    simp only [d1, RR, seval]
    refine awpC_pure' (awake_con) ?_
    simp only [d1, RR, seval]
    refine hK _ _ ?_; clear hK K
    refine awp_ret ?_; simp only [bodyQ, aresult, ares, d1, RR, seval]
    refine Gives.pure ?_
    rfl
end Go.Proofs.Ytlokndnkpleegaa
