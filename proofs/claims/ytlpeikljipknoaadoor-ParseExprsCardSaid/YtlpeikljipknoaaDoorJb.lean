/- Chapter 15, the judge's: atoms. Chapter 15, the judge's: expressions. -/
import Derived.Test.YtlpeikljipknoaaDoorJa
import Derived.Test.YtlpeikljipknoaaDoorGra
import Derived.Test.YtlpeikljipknoaaDoorRa
import Derived.Test.YtlpeikljipknoaaDoorRc
set_option linter.unusedSimpArgs false
set_option linter.unusedVariables false
set_option maxRecDepth 10000
namespace Go.Proofs.YtlpeikljipknoaaDoor
open Go.Al
theorem awpC_jk {F : Nat → Prop} {ds : List (Option Nat)} {Q : APost} {d : Option Nat} {rest : List Oper} {fr : Fr} {H : Hp} {g : FuncId} {args : List AV} {b : Nat} {T : List Tok} {n : Nat} {w : Bool} {v : AV}
    (hc : JOne g args b T n w v n w) (hb : H b = some (.rows 3 [[.isl 4 (T.map Tok.row), .int .i64 (n : Nat), .bool w]])) (hF : F b)
    (hok : awpL env F ds Q rest (putF fr d v) H) : awpC env F ds Q d rest fr H g (.ptr 3 b 0 0 :: args) := by
  refine awpC_con hc (SubL.refl _) (jdH_sub hb) (fun x hx => ?_) fun ae H' hr _ => ?_
  · by_cases c : x = b
    · subst c; exact hF
    · rw [jdH, upd_ne _ _ c] at hx; exact absurd rfl hx
  · obtain ⟨rfl, rfl⟩ := hr
    have : hjoin (jdH b T n w) (jdH b T n w) H = H := hjoin_sub (jdH_sub hb)
    simp only [this]
    exact hok
def jatomC (r0 : Nat) (T : List Tok) (n : Nat) (w : Bool) : Prop := JCon 65 [] r0 T n w exV (stW w n (atomP T n))
def jexprC (r0 : Nat) (T : List Tok) (lo n : Nat) (w : Bool) : Prop := JCon 34 [.int .i64 (lo : Nat)] r0 T n w exV (stW w n (exprP T lo n))
def jargsC (r0 : Nat) (T : List Tok) (n : Nat) (w : Bool) : Prop := JCon 94 [] r0 T n w exL (stW w n (argsP T n))
structure BehJ (r0 : Nat) (T : List Tok) (n : Nat) : Prop where
  atom : ∀ m w, n < m → m ≤ T.length → jatomC r0 T m w
  expr : ∀ lo m w, 1 ≤ lo → lo ≤ 10 → n < m → m ≤ T.length → jexprC r0 T lo m w
  args : ∀ m w, n < m → m ≤ T.length → jargsC r0 T m w
set_option maxHeartbeats 4000000 in
theorem jatom_step (r0 : Nat) {T : List Tok} (hT : Sz T) (n : Nat) (w : Bool) (hn : n ≤ T.length) (ih : BehJ r0 T n) : jatomC r0 T n w := by
  have hkc := jkind_con r0 T n w hn 2 (by decide)
  unfold jatomC JCon
  generalize hres : stW w n (atomP T n) = res
  rw [atomP_eq'] at hres
  have hlen := hT.len
  have hr0 := jdH_at r0 T n w
  refine con_of 59 [.cell 2 36] Tryd.func65 rfl rfl rfl rfl ?_
  refine awp_seq_k fun K hK => ?_
  refine awp_region rfl ?_
  simp only [hr0, List.length_map, exV, exL, RR, seval]
  refine awpN_intro fun b2 hn2 => ?_
  have nb2_r0 : b2 ≠ r0 := fun e => by rw [e] at hn2; simp only [hr0, RR, seval, reduceCtorEq] at hn2
  have nr0_b2 : r0 ≠ b2 := fun e => nb2_r0 e.symm
  simp only [hr0, nb2_r0, nr0_b2, List.length_map, exV, exL, RR, seval]
  refine hK _ _ ?_; clear hK K
  refine awp_seq ?_
  refine awp_block ?_
  refine awp_seq_k fun K hK => ?_
  refine awp_region rfl ?_
  simp only [hr0, nb2_r0, nr0_b2, List.length_map, exV, exL, RR, seval]
  refine awpC_jk hkc (by first | exact hr0 | (simp only [hr0, nb2_r0, nr0_b2, List.length_map, exV, exL, upd_app, RR, seval]; done)) trivial ?_
  simp only [hr0, nb2_r0, nr0_b2, List.length_map, exV, exL, RR, seval]
  refine hK _ _ ?_; clear hK K
  refine awp_if _ rfl (fun hc1 => ?_) (fun hc1 => ?_)
  · have hres := ik_t hc1 hres
    refine awp_seq_k fun K hK => ?_
    refine awp_region rfl ?_
    simp only [hr0, nb2_r0, nr0_b2, List.length_map, exV, exL, RR, seval]
    refine awpC_jd (token_con r0 hT n w hn 2 (by decide)) (by first | exact hr0 | (simp only [hr0, nb2_r0, nr0_b2, List.length_map, exV, exL, upd_app, RR, seval]; done)) trivial fun a10 m10 w10 M1 hj10 hle10 hlt10 hn10x hk10x => ?_
    have hres := stW_step hres hj10
    have gb2 := hk10x b2 _ (by first | exact nb2_r0 | exact blk_ne hb2 hr0 (by decide) | (intro e; subst e; simp_all)) (by first | exact upd_same _ _ _ | (simp only [hr0, nb2_r0, nr0_b2, List.length_map, exV, exL, upd_app, RR, seval]; rfl))
    have hb2 := gb2; clear gb2
    have hr0 := hn10x; clear hn10x hk10x
    simp only [hr0, hb2, nb2_r0, nr0_b2, List.length_map, exV, exL, RR, seval]
    refine hK _ _ ?_; clear hK K
    refine awp_ret ?_; simp only [bodyQ, aresult, ares, hr0, hb2, nb2_r0, nr0_b2, List.length_map, exV, exL, RR, seval]
    refine jgives (by first | exact hr0 | (simp only [hr0, hb2, nb2_r0, nr0_b2, List.length_map, exV, exL, upd_app, RR, seval]; done)) hres ?_ (by omega) (by omega)
    simp only [exV, Ex.row_eq, Ex.kind, Ex.op, Ex.num, Ex.name, Ex.kids, List.map_cons, List.map_nil]
    exact Sub.aggR (by repeat' (first | exact SubR.nil | exact SubRs.nil | exact Sub.refl _ | exact Sub.nsl _ | refine SubR.cons ?_ ?_ | refine SubRs.cons ?_ ?_ | refine Sub.isl ?_ | refine Sub.aggR ?_))
  · have hres := ik_f hc1 hres
    refine awp_seq_k fun K hK => ?_
    refine awp_region rfl ?_
    simp only [hr0, nb2_r0, nr0_b2, List.length_map, exV, exL, RR, seval]
    refine awpC_jo (is_con r0 hT n w hn [103, 101, 116] (by decide)) (by first | exact hr0 | (simp only [hr0, nb2_r0, nr0_b2, List.length_map, exV, exL, upd_app, RR, seval]; done)) trivial fun M2 hn15x hk15x => ?_
    have gb2 := hk15x b2 _ (by first | exact nb2_r0 | exact blk_ne hb2 hr0 (by decide) | (intro e; subst e; simp_all)) (by first | exact upd_same _ _ _ | (simp only [hr0, nb2_r0, nr0_b2, List.length_map, exV, exL, upd_app, RR, seval]; rfl))
    have hb2 := gb2; clear gb2
    have hr0 := hn15x; clear hn15x hk15x
    simp only [hr0, hb2, nb2_r0, nr0_b2, List.length_map, exV, exL, RR, seval]
    refine hK _ _ ?_; clear hK K
    refine awp_if _ rfl (fun hc3 => ?_) (fun hc3 => ?_)
    · have hres := is_t hc3 hres
      rw [if_pos hc3] at hr0
      have hlt3 := isB_lt hc3 (by first | assumption | decide)
      refine awp_seq_k fun K hK => ?_
      refine awp_region rfl ?_
      simp only [hr0, hb2, nb2_r0, nr0_b2, List.length_map, exV, exL, RR, seval]
      refine awpC_jd (jmust_con r0 hT (n + 1) w (by omega) [40] (by decide)) (by first | exact hr0 | (simp only [hr0, hb2, nb2_r0, nr0_b2, List.length_map, exV, exL, upd_app, RR, seval]; done)) trivial fun a17 m17 w17 M3 hj17 hle17 hlt17 hn17x hk17x => ?_
      have hres := stW_step hres hj17
      have gb2 := hk17x b2 _ (by first | exact nb2_r0 | exact blk_ne hb2 hr0 (by decide) | (intro e; subst e; simp_all)) (by first | exact hb2 | exact upd_same _ _ _ | (simp only [hr0, hb2, nb2_r0, nr0_b2, List.length_map, exV, exL, upd_app, RR, seval]; rfl))
      have hb2 := gb2; clear gb2
      have hr0 := hn17x; clear hn17x hk17x
      simp only [hr0, hb2, nb2_r0, nr0_b2, List.length_map, exV, exL, RR, seval]
      refine hK _ _ ?_; clear hK K
      refine awp_seq_k fun K hK => ?_
      refine awp_region rfl ?_
      simp only [hr0, hb2, nb2_r0, nr0_b2, List.length_map, exV, exL, RR, seval]
      refine awpC_jd (jmust_con r0 hT m17 w17 hlt17 [41] (by decide)) (by first | exact hr0 | (simp only [hr0, hb2, nb2_r0, nr0_b2, List.length_map, exV, exL, upd_app, RR, seval]; done)) trivial fun a19 m19 w19 M4 hj19 hle19 hlt19 hn19x hk19x => ?_
      have hres := stW_step hres hj19
      have gb2 := hk19x b2 _ (by first | exact nb2_r0 | exact blk_ne hb2 hr0 (by decide) | (intro e; subst e; simp_all)) (by first | exact hb2 | exact upd_same _ _ _ | (simp only [hr0, hb2, nb2_r0, nr0_b2, List.length_map, exV, exL, upd_app, RR, seval]; rfl))
      have hb2 := gb2; clear gb2
      have hr0 := hn19x; clear hn19x hk19x
      simp only [hr0, hb2, nb2_r0, nr0_b2, List.length_map, exV, exL, RR, seval]
      refine hK _ _ ?_; clear hK K
      refine awp_seq_k fun K hK => ?_
      refine awp_region rfl ?_
      simp only [hr0, hb2, nb2_r0, nr0_b2, List.length_map, exV, exL, RR, seval]
      refine hK _ _ ?_; clear hK K
      refine awp_ret ?_; simp only [bodyQ, aresult, ares, hr0, hb2, nb2_r0, nr0_b2, List.length_map, exV, exL, RR, seval]
      refine jgives (by first | exact hr0 | (simp only [hr0, hb2, nb2_r0, nr0_b2, List.length_map, exV, exL, upd_app, RR, seval]; done)) hres ?_ (by omega) (by omega)
      simp only [exV, Ex.row_eq, Ex.kind, Ex.op, Ex.num, Ex.name, Ex.kids, List.map_cons, List.map_nil]
      exact Sub.aggR (by repeat' (first | exact SubR.nil | exact SubRs.nil | exact Sub.refl _ | exact Sub.nsl _ | refine SubR.cons ?_ ?_ | refine SubRs.cons ?_ ?_ | refine Sub.isl ?_ | refine Sub.aggR ?_))
    · have hres := is_f hc3 hres
      rw [if_neg (Bool.eq_false_iff.1 hc3)] at hr0
      refine awp_seq_k fun K hK => ?_
      refine awp_region rfl ?_
      simp only [hr0, hb2, nb2_r0, nr0_b2, List.length_map, exV, exL, RR, seval]
      refine awpC_jo (is_con r0 hT n w hn [33] (by decide)) (by first | exact hr0 | (simp only [hr0, hb2, nb2_r0, nr0_b2, List.length_map, exV, exL, upd_app, RR, seval]; done)) trivial fun M5 hn23x hk23x => ?_
      have gb2 := hk23x b2 _ (by first | exact nb2_r0 | exact blk_ne hb2 hr0 (by decide) | (intro e; subst e; simp_all)) (by first | exact hb2 | exact upd_same _ _ _ | (simp only [hr0, hb2, nb2_r0, nr0_b2, List.length_map, exV, exL, upd_app, RR, seval]; rfl))
      have hb2 := gb2; clear gb2
      have hr0 := hn23x; clear hn23x hk23x
      simp only [hr0, hb2, nb2_r0, nr0_b2, List.length_map, exV, exL, RR, seval]
      refine hK _ _ ?_; clear hK K
      refine awp_if _ rfl (fun hc7 => ?_) (fun hc7 => ?_)
      · have hres := is_t hc7 hres
        rw [if_pos hc7] at hr0
        have hlt7 := isB_lt hc7 (by first | assumption | decide)
        refine awp_seq_k fun K hK => ?_
        refine awp_region rfl ?_
        simp only [hr0, hb2, nb2_r0, nr0_b2, List.length_map, exV, exL, RR, seval]
        refine awpC_jd (ih.atom (n + 1) w (by omega) (by omega)) (by first | exact hr0 | (simp only [hr0, hb2, nb2_r0, nr0_b2, List.length_map, exV, exL, upd_app, RR, seval]; done)) trivial fun a25 m25 w25 M6 hj25 hle25 hlt25 hn25x hk25x => ?_
        have hres := stW_step hres hj25
        have gb2 := hk25x b2 _ (by first | exact nb2_r0 | exact blk_ne hb2 hr0 (by decide) | (intro e; subst e; simp_all)) (by first | exact hb2 | exact upd_same _ _ _ | (simp only [hr0, hb2, nb2_r0, nr0_b2, List.length_map, exV, exL, upd_app, RR, seval]; rfl))
        have hb2 := gb2; clear gb2
        have hr0 := hn25x; clear hn25x hk25x
        simp only [hr0, hb2, nb2_r0, nr0_b2, List.length_map, exV, exL, RR, seval]
        refine awpB_sealed ?_
        simp only [hr0, hb2, nb2_r0, nr0_b2, List.length_map, exV, exL, RR, seval]
        refine hK _ _ ?_; clear hK K
        refine awp_ret ?_; simp only [bodyQ, aresult, ares, hr0, hb2, nb2_r0, nr0_b2, List.length_map, exV, exL, RR, seval]
        refine jgives (by first | exact hr0 | (simp only [hr0, hb2, nb2_r0, nr0_b2, List.length_map, exV, exL, upd_app, RR, seval]; done)) hres ?_ (by omega) (by omega)
        simp only [exV, Ex.row_eq, Ex.kind, Ex.op, Ex.num, Ex.name, Ex.kids, List.map_cons, List.map_nil]
        exact Sub.aggR (by repeat' (first | exact SubR.nil | exact SubRs.nil | exact Sub.refl _ | exact Sub.nsl _ | refine SubR.cons ?_ ?_ | refine SubRs.cons ?_ ?_ | refine Sub.isl ?_ | refine Sub.aggR ?_))
      · have hres := is_f hc7 hres
        rw [if_neg (Bool.eq_false_iff.1 hc7)] at hr0
        refine awp_seq_k fun K hK => ?_
        refine awp_region rfl ?_
        simp only [hr0, hb2, nb2_r0, nr0_b2, List.length_map, exV, exL, RR, seval]
        refine awpC_jo (is_con r0 hT n w hn [40] (by decide)) (by first | exact hr0 | (simp only [hr0, hb2, nb2_r0, nr0_b2, List.length_map, exV, exL, upd_app, RR, seval]; done)) trivial fun M7 hn30x hk30x => ?_
        have gb2 := hk30x b2 _ (by first | exact nb2_r0 | exact blk_ne hb2 hr0 (by decide) | (intro e; subst e; simp_all)) (by first | exact hb2 | exact upd_same _ _ _ | (simp only [hr0, hb2, nb2_r0, nr0_b2, List.length_map, exV, exL, upd_app, RR, seval]; rfl))
        have hb2 := gb2; clear gb2
        have hr0 := hn30x; clear hn30x hk30x
        simp only [hr0, hb2, nb2_r0, nr0_b2, List.length_map, exV, exL, RR, seval]
        refine hK _ _ ?_; clear hK K
        refine awp_if _ rfl (fun hc9 => ?_) (fun hc9 => ?_)
        · have hres := is_t hc9 hres
          rw [if_pos hc9] at hr0
          have hlt9 := isB_lt hc9 (by first | assumption | decide)
          refine awp_seq_k fun K hK => ?_
          refine awp_region rfl ?_
          simp only [hr0, hb2, nb2_r0, nr0_b2, List.length_map, exV, exL, RR, seval]
          refine awpC_jd (ih.expr 1 (n + 1) w (by decide) (by decide) (by omega) (by omega)) (by first | exact hr0 | (simp only [hr0, hb2, nb2_r0, nr0_b2, List.length_map, exV, exL, upd_app, RR, seval]; done)) trivial fun a32 m32 w32 M8 hj32 hle32 hlt32 hn32x hk32x => ?_
          have hres := stW_step hres hj32
          have gb2 := hk32x b2 _ (by first | exact nb2_r0 | exact blk_ne hb2 hr0 (by decide) | (intro e; subst e; simp_all)) (by first | exact hb2 | exact upd_same _ _ _ | (simp only [hr0, hb2, nb2_r0, nr0_b2, List.length_map, exV, exL, upd_app, RR, seval]; rfl))
          have hb2 := gb2; clear gb2
          have hr0 := hn32x; clear hn32x hk32x
          simp only [hr0, hb2, nb2_r0, nr0_b2, List.length_map, exV, exL, RR, seval]
          refine awpN_intro fun b3 hn3 => ?_
          have nb3_r0 : b3 ≠ r0 := fun e => by rw [e] at hn3; simp only [hr0, nb2_r0, nr0_b2, RR, seval, reduceCtorEq] at hn3
          have nr0_b3 : r0 ≠ b3 := fun e => nb3_r0 e.symm
          have nb3_b2 : b3 ≠ b2 := fun e => by rw [e] at hn3; simp only [hb2, nb2_r0, nr0_b2, RR, seval, reduceCtorEq] at hn3
          have nb2_b3 : b2 ≠ b3 := fun e => nb3_b2 e.symm
          simp only [hr0, hb2, nb2_r0, nr0_b2, nb3_r0, nr0_b3, nb3_b2, nb2_b3, List.length_map, exV, exL, RR, seval]
          refine hK _ _ ?_; clear hK K
          refine awp_seq_k fun K hK => ?_
          refine awp_region rfl ?_
          simp only [hr0, hb2, nb2_r0, nr0_b2, nb3_r0, nr0_b3, nb3_b2, nb2_b3, List.length_map, exV, exL, RR, seval]
          refine awpC_jd (jmust_con r0 hT m32 w32 hlt32 [41] (by decide)) (by first | exact hr0 | (simp only [hr0, hb2, nb2_r0, nr0_b2, nb3_r0, nr0_b3, nb3_b2, nb2_b3, List.length_map, exV, exL, upd_app, RR, seval]; done)) trivial fun a34 m34 w34 M9 hj34 hle34 hlt34 hn34x hk34x => ?_
          have hres := stW_step hres hj34
          have gb2 := hk34x b2 _ (by first | exact nb2_r0 | exact blk_ne hb2 hr0 (by decide) | (intro e; subst e; simp_all)) (by first | exact hb2 | exact upd_same _ _ _ | (simp only [hr0, hb2, nb2_r0, nr0_b2, nb3_r0, nr0_b3, nb3_b2, nb2_b3, List.length_map, exV, exL, upd_app, RR, seval]; rfl))
          have gb3 := hk34x b3 _ (by first | exact nb3_r0 | exact blk_ne hb3 hr0 (by decide) | (intro e; subst e; simp_all)) (by first | exact upd_same _ _ _ | (simp only [hr0, hb2, nb2_r0, nr0_b2, nb3_r0, nr0_b3, nb3_b2, nb2_b3, List.length_map, exV, exL, upd_app, RR, seval]; rfl))
          have hb2 := gb2; clear gb2
          have hb3 := gb3; clear gb3
          have hr0 := hn34x; clear hn34x hk34x
          simp only [hr0, hb2, hb3, nb2_r0, nr0_b2, nb3_r0, nr0_b3, nb3_b2, nb2_b3, List.length_map, exV, exL, RR, seval]
          refine hK _ _ ?_; clear hK K
          refine awp_seq_k fun K hK => ?_
          refine awp_region rfl ?_
          simp only [hr0, hb2, hb3, nb2_r0, nr0_b2, nb3_r0, nr0_b3, nb3_b2, nb2_b3, List.length_map, exV, exL, RR, seval]
          refine hK _ _ ?_; clear hK K
          refine awp_ret ?_; simp only [bodyQ, aresult, ares, hr0, hb2, hb3, nb2_r0, nr0_b2, nb3_r0, nr0_b3, nb3_b2, nb2_b3, List.length_map, exV, exL, RR, seval]
          refine jgives (by first | exact hr0 | (simp only [hr0, hb2, hb3, nb2_r0, nr0_b2, nb3_r0, nr0_b3, nb3_b2, nb2_b3, List.length_map, exV, exL, upd_app, RR, seval]; done)) hres ?_ (by omega) (by omega)
          simp only [exV, Ex.row_eq, Ex.kind, Ex.op, Ex.num, Ex.name, Ex.kids, List.map_cons, List.map_nil]
          exact Sub.aggR (by repeat' (first | exact SubR.nil | exact SubRs.nil | exact Sub.refl _ | exact Sub.nsl _ | refine SubR.cons ?_ ?_ | refine SubRs.cons ?_ ?_ | refine Sub.isl ?_ | refine Sub.aggR ?_))
        · have hres := is_f hc9 hres
          rw [if_neg (Bool.eq_false_iff.1 hc9)] at hr0
          refine awp_skip ?_; try simp only [RR]
          refine awp_seq_k fun K hK => ?_
          refine awp_region rfl ?_
          simp only [hr0, hb2, nb2_r0, nr0_b2, List.length_map, exV, exL, RR, seval]
          refine awpC_jd (token_con r0 hT n w hn 1 (by decide)) (by first | exact hr0 | (simp only [hr0, hb2, nb2_r0, nr0_b2, List.length_map, exV, exL, upd_app, RR, seval]; done)) trivial fun a37 m37 w37 M10 hj37 hle37 hlt37 hn37x hk37x => ?_
          have hres := stW_step hres hj37
          have gb2 := hk37x b2 _ (by first | exact nb2_r0 | exact blk_ne hb2 hr0 (by decide) | (intro e; subst e; simp_all)) (by first | exact hb2 | exact upd_same _ _ _ | (simp only [hr0, hb2, nb2_r0, nr0_b2, List.length_map, exV, exL, upd_app, RR, seval]; rfl))
          have hb2 := gb2; clear gb2
          have hr0 := hn37x; clear hn37x hk37x
          simp only [hr0, hb2, nb2_r0, nr0_b2, List.length_map, exV, exL, RR, seval]
          refine hK _ _ ?_; clear hK K
          refine awp_seq ?_
          refine awp_block ?_
          refine awp_seq_k fun K hK => ?_
          refine awp_region rfl ?_
          simp only [hr0, hb2, nb2_r0, nr0_b2, List.length_map, exV, exL, RR, seval]
          refine awpC_jo (is_con r0 hT m37 w37 hlt37 [91] (by decide)) (by first | exact hr0 | (simp only [hr0, hb2, nb2_r0, nr0_b2, List.length_map, exV, exL, upd_app, RR, seval]; done)) trivial fun M11 hn41x hk41x => ?_
          have gb2 := hk41x b2 _ (by first | exact nb2_r0 | exact blk_ne hb2 hr0 (by decide) | (intro e; subst e; simp_all)) (by first | exact hb2 | exact upd_same _ _ _ | (simp only [hr0, hb2, nb2_r0, nr0_b2, List.length_map, exV, exL, upd_app, RR, seval]; rfl))
          have hb2 := gb2; clear gb2
          have hr0 := hn41x; clear hn41x hk41x
          simp only [hr0, hb2, nb2_r0, nr0_b2, List.length_map, exV, exL, RR, seval]
          refine hK _ _ ?_; clear hK K
          refine awp_if _ rfl (fun hc14 => ?_) (fun hc14 => ?_)
          · have hres := is_t hc14 hres
            rw [if_pos hc14] at hr0
            have hlt14 := isB_lt hc14 (by first | assumption | decide)
            refine awp_seq_k fun K hK => ?_
            refine awp_region rfl ?_
            simp only [hr0, hb2, nb2_r0, nr0_b2, List.length_map, exV, exL, RR, seval]
            refine awpC_jd (ih.expr 1 (m37 + 1) w37 (by decide) (by decide) (by omega) (by omega)) (by first | exact hr0 | (simp only [hr0, hb2, nb2_r0, nr0_b2, List.length_map, exV, exL, upd_app, RR, seval]; done)) trivial fun a43 m43 w43 M12 hj43 hle43 hlt43 hn43x hk43x => ?_
            have hres := stW_step hres hj43
            have gb2 := hk43x b2 _ (by first | exact nb2_r0 | exact blk_ne hb2 hr0 (by decide) | (intro e; subst e; simp_all)) (by first | exact hb2 | exact upd_same _ _ _ | (simp only [hr0, hb2, nb2_r0, nr0_b2, List.length_map, exV, exL, upd_app, RR, seval]; rfl))
            have hb2 := gb2; clear gb2
            have hr0 := hn43x; clear hn43x hk43x
            simp only [hr0, hb2, nb2_r0, nr0_b2, List.length_map, exV, exL, RR, seval]
            refine awpN_intro fun b5 hn5 => ?_
            have nb5_r0 : b5 ≠ r0 := fun e => by rw [e] at hn5; simp only [hr0, nb2_r0, nr0_b2, RR, seval, reduceCtorEq] at hn5
            have nr0_b5 : r0 ≠ b5 := fun e => nb5_r0 e.symm
            have nb5_b2 : b5 ≠ b2 := fun e => by rw [e] at hn5; simp only [hb2, nb2_r0, nr0_b2, RR, seval, reduceCtorEq] at hn5
            have nb2_b5 : b2 ≠ b5 := fun e => nb5_b2 e.symm
            simp only [hr0, hb2, nb2_r0, nr0_b2, nb5_r0, nr0_b5, nb5_b2, nb2_b5, List.length_map, exV, exL, RR, seval]
            refine hK _ _ ?_; clear hK K
            refine awp_seq_k fun K hK => ?_
            refine awp_region rfl ?_
            simp only [hr0, hb2, nb2_r0, nr0_b2, nb5_r0, nr0_b5, nb5_b2, nb2_b5, List.length_map, exV, exL, RR, seval]
            refine awpC_jd (jmust_con r0 hT m43 w43 hlt43 [93] (by decide)) (by first | exact hr0 | (simp only [hr0, hb2, nb2_r0, nr0_b2, nb5_r0, nr0_b5, nb5_b2, nb2_b5, List.length_map, exV, exL, upd_app, RR, seval]; done)) trivial fun a45 m45 w45 M13 hj45 hle45 hlt45 hn45x hk45x => ?_
            have hres := stW_step hres hj45
            have gb2 := hk45x b2 _ (by first | exact nb2_r0 | exact blk_ne hb2 hr0 (by decide) | (intro e; subst e; simp_all)) (by first | exact hb2 | exact upd_same _ _ _ | (simp only [hr0, hb2, nb2_r0, nr0_b2, nb5_r0, nr0_b5, nb5_b2, nb2_b5, List.length_map, exV, exL, upd_app, RR, seval]; rfl))
            have gb5 := hk45x b5 _ (by first | exact nb5_r0 | exact blk_ne hb5 hr0 (by decide) | (intro e; subst e; simp_all)) (by first | exact upd_same _ _ _ | (simp only [hr0, hb2, nb2_r0, nr0_b2, nb5_r0, nr0_b5, nb5_b2, nb2_b5, List.length_map, exV, exL, upd_app, RR, seval]; rfl))
            have hb2 := gb2; clear gb2
            have hb5 := gb5; clear gb5
            have hr0 := hn45x; clear hn45x hk45x
            simp only [hr0, hb2, hb5, nb2_r0, nr0_b2, nb5_r0, nr0_b5, nb5_b2, nb2_b5, List.length_map, exV, exL, RR, seval]
            refine hK _ _ ?_; clear hK K
            refine awp_seq_k fun K hK => ?_
            refine awp_region rfl ?_
            simp only [hr0, hb2, hb5, nb2_r0, nr0_b2, nb5_r0, nr0_b5, nb5_b2, nb2_b5, List.length_map, exV, exL, RR, seval]
            refine awpB_sealed ?_
            simp only [hr0, hb2, hb5, nb2_r0, nr0_b2, nb5_r0, nr0_b5, nb5_b2, nb2_b5, List.length_map, exV, exL, RR, seval]
            refine hK _ _ ?_; clear hK K
            refine awp_ret ?_; simp only [bodyQ, aresult, ares, hr0, hb2, hb5, nb2_r0, nr0_b2, nb5_r0, nr0_b5, nb5_b2, nb2_b5, List.length_map, exV, exL, RR, seval]
            refine jgives (by first | exact hr0 | (simp only [hr0, hb2, hb5, nb2_r0, nr0_b2, nb5_r0, nr0_b5, nb5_b2, nb2_b5, List.length_map, exV, exL, upd_app, RR, seval]; done)) hres ?_ (by omega) (by omega)
            simp only [exV, Ex.row_eq, Ex.kind, Ex.op, Ex.num, Ex.name, Ex.kids, List.map_cons, List.map_nil]
            exact Sub.aggR (by repeat' (first | exact SubR.nil | exact SubRs.nil | exact Sub.refl _ | exact Sub.nsl _ | refine SubR.cons ?_ ?_ | refine SubRs.cons ?_ ?_ | refine Sub.isl ?_ | refine Sub.aggR ?_))
          · have hres := is_f hc14 hres
            rw [if_neg (Bool.eq_false_iff.1 hc14)] at hr0
            refine awp_seq_k fun K hK => ?_
            refine awp_region rfl ?_
            simp only [hr0, hb2, nb2_r0, nr0_b2, List.length_map, exV, exL, RR, seval]
            refine awpC_jo (is_con r0 hT m37 w37 hlt37 [40] (by decide)) (by first | exact hr0 | (simp only [hr0, hb2, nb2_r0, nr0_b2, List.length_map, exV, exL, upd_app, RR, seval]; done)) trivial fun M14 hn52x hk52x => ?_
            have gb2 := hk52x b2 _ (by first | exact nb2_r0 | exact blk_ne hb2 hr0 (by decide) | (intro e; subst e; simp_all)) (by first | exact hb2 | exact upd_same _ _ _ | (simp only [hr0, hb2, nb2_r0, nr0_b2, List.length_map, exV, exL, upd_app, RR, seval]; rfl))
            have hb2 := gb2; clear gb2
            have hr0 := hn52x; clear hn52x hk52x
            simp only [hr0, hb2, nb2_r0, nr0_b2, List.length_map, exV, exL, RR, seval]
            refine hK _ _ ?_; clear hK K
            refine awp_if _ rfl (fun hc18 => ?_) (fun hc18 => ?_)
            · have hres := is_t hc18 hres
              rw [if_pos hc18] at hr0
              have hlt18 := isB_lt hc18 (by first | assumption | decide)
              refine awp_seq_k fun K hK => ?_
              refine awp_region rfl ?_
              simp only [hr0, hb2, nb2_r0, nr0_b2, List.length_map, exV, exL, RR, seval]
              refine awpC_jd (ih.args (m37 + 1) w37 (by omega) (by omega)) (by first | exact hr0 | (simp only [hr0, hb2, nb2_r0, nr0_b2, List.length_map, exV, exL, upd_app, RR, seval]; done)) trivial fun a55 m55 w55 M15 hj55 hle55 hlt55 hn55x hk55x => ?_
              have hres := stW_step hres hj55
              have gb2 := hk55x b2 _ (by first | exact nb2_r0 | exact blk_ne hb2 hr0 (by decide) | (intro e; subst e; simp_all)) (by first | exact hb2 | exact upd_same _ _ _ | (simp only [hr0, hb2, nb2_r0, nr0_b2, List.length_map, exV, exL, upd_app, RR, seval]; rfl))
              have hb2 := gb2; clear gb2
              have hr0 := hn55x; clear hn55x hk55x
              simp only [hr0, hb2, nb2_r0, nr0_b2, List.length_map, exV, exL, RR, seval]
              refine hK _ _ ?_; clear hK K
              refine awp_ret ?_; simp only [bodyQ, aresult, ares, hr0, hb2, nb2_r0, nr0_b2, List.length_map, exV, exL, RR, seval]
              refine jgives (by first | exact hr0 | (simp only [hr0, hb2, nb2_r0, nr0_b2, List.length_map, exV, exL, upd_app, RR, seval]; done)) hres ?_ (by omega) (by omega)
              simp only [exV, Ex.row_eq, Ex.kind, Ex.op, Ex.num, Ex.name, Ex.kids, List.map_cons, List.map_nil]
              exact Sub.aggR (by repeat' (first | exact SubR.nil | exact SubRs.nil | exact Sub.refl _ | exact Sub.nsl _ | refine SubR.cons ?_ ?_ | refine SubRs.cons ?_ ?_ | refine Sub.isl ?_ | refine Sub.aggR ?_))
            · have hres := is_f hc18 hres
              rw [if_neg (Bool.eq_false_iff.1 hc18)] at hr0
              refine awp_skip ?_; try simp only [RR]
              refine awp_seq_k fun K hK => ?_
              refine awp_region rfl ?_
              simp only [hr0, hb2, nb2_r0, nr0_b2, List.length_map, exV, exL, RR, seval]
              refine hK _ _ ?_; clear hK K
              refine awp_ret ?_; simp only [bodyQ, aresult, ares, hr0, hb2, nb2_r0, nr0_b2, List.length_map, exV, exL, RR, seval]
              refine jgives (by first | exact hr0 | (simp only [hr0, hb2, nb2_r0, nr0_b2, List.length_map, exV, exL, upd_app, RR, seval]; done)) hres ?_ (by omega) (by omega)
              simp only [exV, Ex.row_eq, Ex.kind, Ex.op, Ex.num, Ex.name, Ex.kids, List.map_cons, List.map_nil]
              exact Sub.aggR (by repeat' (first | exact SubR.nil | exact SubRs.nil | exact Sub.refl _ | exact Sub.nsl _ | refine SubR.cons ?_ ?_ | refine SubRs.cons ?_ ?_ | refine Sub.isl ?_ | refine Sub.aggR ?_))
end Go.Proofs.YtlpeikljipknoaaDoor

namespace Go.Proofs.YtlpeikljipknoaaDoor
open Go.Al
set_option maxHeartbeats 4000000 in
theorem jexpr_step (r0 : Nat) {T : List Tok} (hT : Sz T) (lo n : Nat) (w : Bool) (hl : 1 ≤ lo) (hl2 : lo ≤ 9) (hn : n ≤ T.length) (hx : jexprC r0 T (lo + 1) n w) (ih : BehJ r0 T n) : jexprC r0 T lo n w := by
  unfold jexprC JCon
  generalize hres : stW w n (exprP T lo n) = res
  have hstop : ∀ a m w', stW w' m (PR.ok a m) = stW w n (exprP T (lo + 1) n) → w' = false → (sgI (peekI T m)).2.2 ≤ lo := fun a m w' h hw => by
    subst hw
    cases w with
    | true => rw [stW_t, stW_f] at h; cases h
    | false =>
      rw [stW_f, stW_f] at h
      have := expr_stop (by omega) h.symm
      omega
  have hstop2 : ∀ n2 w2 a m w', stW w' m (PR.ok a m) = stW w2 n2 (exprP T (lo + 1) n2) → w' = false → (sgI (peekI T m)).2.2 ≤ lo := fun n2 w2 a m w' h hw => by
    subst hw
    cases w2 with
    | true => rw [stW_t, stW_f] at h; cases h
    | false =>
      rw [stW_f, stW_f] at h
      have := expr_stop (by omega) h.symm
      omega
  rw [exprP_up lo n hl] at hres
  have hlen := hT.len
  have hr0 := jdH_at r0 T n w
  have z1 : decide ((9 : Int) < (lo : Int)) = false := decide_eq_false (by omega)
  have z2 : IntKind.wrap .i64 ((lo : Int) + 1) = ((lo + 1 : Nat) : Int) := by rw [IntWalk.i64_in _ (by omega)]; omega
  unfold jexprC at hx
  refine con_of 44 [.cell 4 36] Tryd.func34 rfl rfl rfl rfl ?_
  refine awp_seq_k fun K hK => ?_
  refine awp_region rfl ?_
  simp only [hr0, List.length_map, exV, exL, z1, z2, RR, seval]
  refine awpN_intro fun b4 hn4 => ?_
  have nb4_r0 : b4 ≠ r0 := fun e => by rw [e] at hn4; simp only [hr0, RR, seval, reduceCtorEq] at hn4
  have nr0_b4 : r0 ≠ b4 := fun e => nb4_r0 e.symm
  simp only [hr0, nb4_r0, nr0_b4, List.length_map, exV, exL, z1, z2, RR, seval]
  refine hK _ _ ?_; clear hK K
  refine awp_seq ?_
  refine awp_seq_k fun K hK => ?_
  refine awp_region rfl ?_
  simp only [List.length_map, exV, exL, z1, z2, RR, seval]
  refine hK _ _ ?_; clear hK K
  refine awp_if false rfl (fun hc => by cases hc) (fun _ => ?_)
  refine awp_skip ?_; try simp only [RR]
  refine awp_seq_k fun K hK => ?_
  refine awp_region rfl ?_
  simp only [hr0, nb4_r0, nr0_b4, List.length_map, exV, exL, z1, z2, RR, seval]
  refine awpC_jd (hx) (by first | exact hr0 | (simp only [hr0, nb4_r0, nr0_b4, List.length_map, exV, exL, z1, z2, upd_app, RR, seval]; done)) trivial fun a14 m14 w14 M1 hj14 hle14 hlt14 hn14x hk14x => ?_
  have hres := stW_step hres hj14
  have gb4 := hk14x b4 _ (by first | exact nb4_r0 | exact blk_ne hb4 hr0 (by decide) | (intro e; subst e; simp_all)) (by first | exact upd_same _ _ _ | (simp only [hr0, nb4_r0, nr0_b4, List.length_map, exV, exL, z1, z2, upd_app, RR, seval]; rfl))
  have hb4 := gb4; clear gb4
  have hr0 := hn14x; clear hn14x hk14x
  simp only [hr0, hb4, nb4_r0, nr0_b4, List.length_map, exV, exL, z1, z2, RR, seval]
  refine awpN_intro fun b5 hn5 => ?_
  have nb5_r0 : b5 ≠ r0 := fun e => by rw [e] at hn5; simp only [hr0, nb4_r0, nr0_b4, RR, seval, reduceCtorEq] at hn5
  have nr0_b5 : r0 ≠ b5 := fun e => nb5_r0 e.symm
  have nb5_b4 : b5 ≠ b4 := fun e => by rw [e] at hn5; simp only [hb4, nb4_r0, nr0_b4, RR, seval, reduceCtorEq] at hn5
  have nb4_b5 : b4 ≠ b5 := fun e => nb5_b4 e.symm
  simp only [hr0, hb4, nb4_r0, nr0_b4, nb5_r0, nr0_b5, nb5_b4, nb4_b5, List.length_map, exV, exL, z1, z2, RR, seval]
  refine hK _ _ ?_; clear hK K
  refine awp_seq ?_
  refine awp_name fun F2 M2 hfr hH => ?_
  have g0 := hfr 0
  have g1 := hfr 1
  have g4 := hfr 4
  have g5 := hfr 5
  have gr0 := hH r0
  have gb4 := hH b4
  have gb5 := hH b5
  try simp only [hr0, hb4, nb4_r0, nr0_b4, nb5_r0, nr0_b5, nb5_b4, nb4_b5, List.length_map, exV, exL, z1, z2, RR, seval] at g0 g1 g4 g5 gr0 gb4 gb5
  have f0 := g0; clear g0
  have f1 := g1; clear g1
  have f4 := g4; clear g4
  have f5 := g5; clear g5
  have hr0 := gr0; clear gr0
  have hb4 := gb4; clear gb4
  have hb5 := gb5; clear gb5
  clear hfr hH
  refine awp_block ?_
  refine awp_while [0, 1, 4, 5] (T.length - m14) (fun k fr M => M b4 = M2 b4 ∧ (∃ (m : Nat) (w' : Bool) (x : Ex), k = T.length - m ∧ n ≤ m ∧ m ≤ T.length ∧ stW w' m (loopP T lo x m) = res ∧ (w' = false → (sgI (peekI T m)).2.2 ≤ lo) ∧ M b5 = some (.rows 5 [[.int .i64 x.kind, .int .i64 x.op, .int .u32 x.num, .str x.name, .isl 5 (x.kids.map Ex.row)]]) ∧ M r0 = some (.rows 3 [[.isl 4 (T.map Tok.row), .int .i64 (m : Nat), .bool w']]))) ⟨rfl, m14, w14, a14, rfl, hle14, hlt14, hres, hstop _ _ _ hj14, hb5, hr0⟩ ?_
  rintro k F3 M3 ⟨gb4, m, w', x, rfl, hnm, hm, hres, hst, hb5, hr0⟩ agx K0 hK0
  have f0 := (agx 0 rfl).trans f0
  have f1 := (agx 1 rfl).trans f1
  have f4 := (agx 4 rfl).trans f4
  have f5 := (agx 5 rfl).trans f5
  have hb4 := gb4.trans hb4
  have ag0 := agree.refl [0, 1, 4, 5] F3
  have e0_b4 := gb4; clear gb4
  clear agx
  have hhc := here_con r0 T m w' hm
  have hsc := strength_con (peekI T m)
  all_goals
    refine awp_seq ?_
    refine awp_seq_k fun K hK => ?_
    refine awp_region rfl ?_
    simp only [f0, f1, hb4, hr0, hb5, nb4_r0, nr0_b4, nb5_r0, nr0_b5, nb5_b4, nb4_b5, List.length_map, exV, exL, z1, z2, RR, seval]
    all_goals try ((first | refine awpG_splitN (fun h => ?_) (fun h => ?_) | refine awpG_split (fun h => ?_) (fun h => ?_)) <;> simp only [h, f0, f1, f4, f5, hb4, hr0, hb5, nb4_r0, nr0_b4, nb5_r0, nr0_b5, nb5_b4, nb4_b5, List.length_map, exV, exL, z1, z2, RR, seval])
    all_goals try (refine awpC_jk hhc (by first | exact hr0 | (simp only [f0, f1, f4, f5, hb4, hr0, hb5, nb4_r0, nr0_b4, nb5_r0, nr0_b5, nb5_b4, nb4_b5, List.length_map, exV, exL, z1, z2, upd_app, RR, seval]; done)) trivial ?_; simp only [f0, f1, hb4, hr0, hb5, nb4_r0, nr0_b4, nb5_r0, nr0_b5, nb5_b4, nb4_b5, List.length_map, exV, exL, z1, z2, RR, seval])
    all_goals try (refine awpC_pure' (hsc) ?_; simp only [f0, f1, hb4, hr0, hb5, nb4_r0, nr0_b4, nb5_r0, nr0_b5, nb5_b4, nb4_b5, List.length_map, exV, exL, z1, z2, RR, seval])
    all_goals
      refine hK _ _ ?_; clear hK K
      refine awp_if _ rfl (fun hc => ?_) (fun hc => ?_)
      · try (cases hc; done)
        all_goals
          have hw0 := hc; clear hc
          have hwf : w' = false := by simpa using h
          have hse : (sgI (peekI T m)).2.2 = lo := by have := of_decide_eq_true hw0; omega
          subst hwf
          rw [stW_f, loopP_eq T lo x m hl, if_neg (by omega), hse] at hres
          have hml : m < T.length := sg_lt (lo := lo) (by omega) hl
          have hres := (stW_f (m + 1) _).trans hres
          have hw1 := i64_inc (n := m) (by omega)
          refine awp_skip ?_; try simp only [RR]
          refine awp_block ?_
          refine awp_seq_k fun K hK => ?_
          refine awp_region rfl ?_
          simp only [f0, hb4, hr0, hb5, nb4_r0, nr0_b4, nb5_r0, nr0_b5, nb5_b4, nb4_b5, List.length_map, exV, exL, z1, z2, hw1, RR, seval]
          refine awpC_jk hhc (by first | exact hr0 | (simp only [f0, f1, f4, f5, hb4, hr0, hb5, nb4_r0, nr0_b4, nb5_r0, nr0_b5, nb5_b4, nb4_b5, List.length_map, exV, exL, z1, z2, hw1, upd_app, RR, seval]; done)) trivial ?_
          simp only [f0, hb4, hr0, hb5, nb4_r0, nr0_b4, nb5_r0, nr0_b5, nb5_b4, nb4_b5, List.length_map, exV, exL, z1, z2, hw1, RR, seval]
          refine hK _ _ ?_; clear hK K
          refine awp_seq_k fun K hK => ?_
          refine awp_region rfl ?_
          simp only [f0, hb4, hr0, hb5, nb4_r0, nr0_b4, nb5_r0, nr0_b5, nb5_b4, nb4_b5, List.length_map, exV, exL, z1, z2, hw1, RR, seval]
          refine hK _ _ ?_; clear hK K
          refine awp_name fun F4 M4 hfr hH => ?_
          have g0 := hfr 0
          have g1 := hfr 1
          have g4 := hfr 4
          have g5 := hfr 5
          have g6 := hfr 6
          have gb4 := hH b4
          have gr0 := hH r0
          have gb5 := hH b5
          try simp only [f0, f1, f4, f5, hb4, hr0, hb5, nb4_r0, nr0_b4, nb5_r0, nr0_b5, nb5_b4, nb4_b5, List.length_map, exV, exL, z1, z2, hw1, RR, seval] at g0 g1 g4 g5 g6 gb4 gr0 gb5
          have ag0 : agree [0, 1, 4, 5] F3 F4 := agree.same hfr (by repeat (first | exact ag0 | refine agree.upd rfl ?_))
          have e0_b4 := (hH b4).trans (by first | exact e0_b4 | (simp only [nb4_r0, nr0_b4, nb5_r0, nr0_b5, nb5_b4, nb4_b5, upd_app, seval]; first | done | exact e0_b4))
          have f0 := g0; clear g0
          have f1 := g1; clear g1
          have f4 := g4; clear g4
          have f5 := g5; clear g5
          have f6 := g6; clear g6
          have hb4 := gb4; clear gb4
          have hr0 := gr0; clear gr0
          have hb5 := gb5; clear gb5
          clear hfr hH
          refine awp_region_draw2 (fun x => x ≠ b4 ∧ x ≠ b5) [(0, 3), (1, 0), (2, 3), (3, 3), (4, 3), (5, 1), (6, 1)] [(7, 1)] draws (by kernel_rfl) rfl rfl ?_
          simp only [emitF, markOf, EM, f0, f1, f5, f6, hb4, hr0, hb5, nb4_r0, nr0_b4, nb5_r0, nr0_b5, nb5_b4, nb4_b5, List.length_map, exV, exL, z1, z2, hw1, RR, seval]
          refine awpC_jd (ih.expr (lo + 1) (m + 1) false (by omega) (by omega) (by omega) (by omega)) (by first | exact hr0 | (simp only [f0, f1, f4, f5, f6, hb4, hr0, hb5, nb4_r0, nr0_b4, nb5_r0, nr0_b5, nb5_b4, nb4_b5, List.length_map, exV, exL, z1, z2, hw1, upd_app, RR, seval]; done)) (by first | trivial | (repeat' apply And.intro) <;> assumption) fun a41 m41 w41 M5 hj41 hle41 hlt41 hn41x hk41x => ?_
          have hres := stW_step hres hj41
          have gb4 := hk41x b4 _ (by first | exact nb4_r0 | exact blk_ne hb4 hr0 (by decide) | (intro e; subst e; simp_all)) (by first | exact hb4 | exact upd_same _ _ _ | (simp only [f0, f1, f4, f5, f6, hb4, hr0, hb5, nb4_r0, nr0_b4, nb5_r0, nr0_b5, nb5_b4, nb4_b5, List.length_map, exV, exL, z1, z2, hw1, upd_app, RR, seval]; rfl))
          have e0_b4 := (gb4.trans hb4.symm).trans e0_b4
          have gb5 := hk41x b5 _ (by first | exact nb5_r0 | exact blk_ne hb5 hr0 (by decide) | (intro e; subst e; simp_all)) (by first | exact hb5 | exact upd_same _ _ _ | (simp only [f0, f1, f4, f5, f6, hb4, hr0, hb5, nb4_r0, nr0_b4, nb5_r0, nr0_b5, nb5_b4, nb4_b5, List.length_map, exV, exL, z1, z2, hw1, upd_app, RR, seval]; rfl))
          have hb4 := gb4; clear gb4
          have hb5 := gb5; clear gb5
          have hr0 := hn41x; clear hn41x hk41x
          simp only [emitF, markOf, EM, f0, f1, f5, f6, hb4, hr0, hb5, nb4_r0, nr0_b4, nb5_r0, nr0_b5, nb5_b4, nb4_b5, List.length_map, exV, exL, z1, z2, hw1, RR, seval]
          refine awpC_pure' (join_con (peekI T m) x a41 (by omega)) ?_
          simp only [emitF, markOf, EM, f0, f1, f5, f6, hb4, hr0, hb5, nb4_r0, nr0_b4, nb5_r0, nr0_b5, nb5_b4, nb4_b5, List.length_map, exV, exL, z1, z2, hw1, RR, seval]
          try rw [IntWalk.i64_in _ (by omega)]
          refine hK0 (T.length - m41) _ _ (by omega) ⟨(by first | exact e0_b4 | (simp only [nb4_r0, nr0_b4, nb5_r0, nr0_b5, nb5_b4, nb4_b5, upd_app, seval]; first | done | exact e0_b4)), m41, w41, joinI (peekI T m) x a41, rfl, by omega, hlt41, hres, hstop2 _ _ _ _ _ hj41, by first | exact upd_same _ _ _ | (simp only [f0, f1, f4, f5, f6, hb4, hr0, hb5, nb4_r0, nr0_b4, nb5_r0, nr0_b5, nb5_b4, nb4_b5, List.length_map, exV, exL, z1, z2, hw1, upd_app, RR, seval]; done), by first | exact hr0 | (simp only [f0, f1, f4, f5, f6, hb4, hr0, hb5, nb4_r0, nr0_b4, nb5_r0, nr0_b5, nb5_b4, nb4_b5, List.length_map, exV, exL, z1, z2, hw1, upd_app, RR, seval]; done)⟩ (by repeat (first | exact ag0 | refine agree.upd rfl ?_))
      · try (cases hc; done)
        all_goals
          have hw0 := hc; clear hc
          have hres : stW w' m (PR.ok x m) = res := by
            cases w' with
            | true => exact hres
            | false =>
              have hlt : (sgI (peekI T m)).2.2 < lo := by
                have := hst rfl
                rcases Nat.lt_or_eq_of_le this with h1 | h1
                · exact h1
                · exfalso; simp_all
              rw [loopP_eq T lo x m hl, if_pos hlt] at hres; exact hres
          refine awp_exit ?_; simp only [RR, seval]
          refine awp_seq_k fun K hK => ?_
          refine awp_region rfl ?_
          simp only [f4, f5, hb4, hr0, hb5, nb4_r0, nr0_b4, nb5_r0, nr0_b5, nb5_b4, nb4_b5, List.length_map, exV, exL, z1, z2, RR, seval]
          refine hK _ _ ?_; clear hK K
          refine awp_ret ?_; simp only [bodyQ, aresult, ares, f0, f1, f4, f5, hb4, hr0, hb5, nb4_r0, nr0_b4, nb5_r0, nr0_b5, nb5_b4, nb4_b5, List.length_map, exV, exL, z1, z2, RR, seval]
          refine jgives (by first | exact hr0 | (simp only [f0, f1, f4, f5, hb4, hr0, hb5, nb4_r0, nr0_b4, nb5_r0, nr0_b5, nb5_b4, nb4_b5, List.length_map, exV, exL, z1, z2, upd_app, RR, seval]; done)) hres ?_ (by omega) (by omega)
          exact Sub.refl _
theorem jexpr_top (r0 : Nat) {T : List Tok} (n : Nat) (w : Bool) (ha : jatomC r0 T n w) : jexprC r0 T 10 n w := by
  unfold jexprC JCon
  rw [exprP_top]
  generalize hres : stW w n (atomP T n) = res
  have hr0 := jdH_at r0 T n w
  have z1 : decide ((9 : Int) < ((10 : Nat) : Int)) = true := rfl
  unfold jatomC at ha
  refine con_of 44 [.cell 4 36] Tryd.func34 rfl rfl rfl rfl ?_
  refine awp_seq_k fun K hK => ?_
  refine awp_region rfl ?_
  simp only [hr0, List.length_map, exV, exL, z1, RR, seval]
  refine awpN_intro fun b4 hn4 => ?_
  have nb4_r0 : b4 ≠ r0 := fun e => by rw [e] at hn4; simp only [hr0, RR, seval, reduceCtorEq] at hn4
  have nr0_b4 : r0 ≠ b4 := fun e => nb4_r0 e.symm
  simp only [hr0, nb4_r0, nr0_b4, List.length_map, exV, exL, z1, RR, seval]
  refine hK _ _ ?_; clear hK K
  refine awp_seq ?_
  refine awp_seq_k fun K hK => ?_
  refine awp_region rfl ?_
  simp only [List.length_map, exV, exL, z1, RR, seval]
  refine hK _ _ ?_; clear hK K
  refine awp_if true rfl (fun _ => ?_) (fun hc => by cases hc)
  refine awp_seq_k fun K hK => ?_
  refine awp_region rfl ?_
  simp only [hr0, nb4_r0, nr0_b4, List.length_map, exV, exL, z1, RR, seval]
  refine awpC_jd (ha) (by first | exact hr0 | (simp only [hr0, nb4_r0, nr0_b4, List.length_map, exV, exL, z1, upd_app, RR, seval]; done)) trivial fun a10 m10 w10 M1 hj10 hle10 hlt10 hn10x hk10x => ?_
  have hres := hj10.trans hres
  have gb4 := hk10x b4 _ (by first | exact nb4_r0 | exact blk_ne hb4 hr0 (by decide) | (intro e; subst e; simp_all)) (by first | exact upd_same _ _ _ | (simp only [hr0, nb4_r0, nr0_b4, List.length_map, exV, exL, z1, upd_app, RR, seval]; rfl))
  have hb4 := gb4; clear gb4
  have hr0 := hn10x; clear hn10x hk10x
  simp only [hr0, hb4, nb4_r0, nr0_b4, List.length_map, exV, exL, z1, RR, seval]
  refine hK _ _ ?_; clear hK K
  refine awp_ret ?_; simp only [bodyQ, aresult, ares, hr0, hb4, nb4_r0, nr0_b4, List.length_map, exV, exL, z1, RR, seval]
  refine jgives (by first | exact hr0 | (simp only [hr0, hb4, nb4_r0, nr0_b4, List.length_map, exV, exL, z1, upd_app, RR, seval]; done)) hres ?_ (by omega) (by omega)
  exact Sub.refl _
set_option maxHeartbeats 4000000 in
theorem jargs_step (r0 : Nat) {T : List Tok} (hT : Sz T) (n : Nat) (w : Bool) (hn : n ≤ T.length) (hx : jexprC r0 T 1 n w) (ih : BehJ r0 T n) : jargsC r0 T n w := by
  unfold jargsC JCon
  generalize hres : stW w n (argsP T n) = res
  rw [argsP_eq] at hres
  have hlen := hT.len
  have hr0 := jdH_at r0 T n w
  unfold jexprC at hx
  refine con_of 21 [.tmp 2] Tryd.func94 rfl rfl rfl rfl ?_
  refine awp_seq_k fun K hK => ?_
  refine awp_region rfl ?_
  simp only [List.length_map, exV, exL, RR, seval]
  refine hK _ _ ?_; clear hK K
  refine awp_seq_k fun K hK => ?_
  refine awp_region rfl ?_
  simp only [List.length_map, exV, exL, RR, seval]
  refine hK _ _ ?_; clear hK K
  refine awp_seq ?_
  refine awp_seq_k fun K hK => ?_
  refine awp_region rfl ?_
  simp only [hr0, List.length_map, exV, exL, RR, seval]
  refine awpC_jo (is_con r0 hT n w hn [41] (by decide)) (by first | exact hr0 | (simp only [hr0, List.length_map, exV, exL, upd_app, RR, seval]; done)) trivial fun M1 hn5x hk5x => ?_
  have hr0 := hn5x; clear hn5x hk5x
  simp only [hr0, List.length_map, exV, exL, RR, seval]
  refine hK _ _ ?_; clear hK K
  refine awp_if _ rfl (fun hc2 => ?_) (fun hc2 => ?_)
  · have hres := is_t hc2 hres
    rw [if_pos hc2] at hr0
    have hlt2 := isB_lt hc2 (by first | assumption | decide)
    refine awp_seq_k fun K hK => ?_
    refine awp_region rfl ?_
    simp only [List.length_map, exV, exL, RR, seval]
    refine hK _ _ ?_; clear hK K
    refine awp_ret ?_; simp only [bodyQ, aresult, ares, List.length_map, exV, exL, RR, seval]
    exact jgives (by first | exact hr0 | (simp only [hr0, List.length_map, exV, exL, upd_app, RR, seval]; done)) hres (Sub.nsl _) (by omega) (by omega)
  · have hres := is_f hc2 hres
    rw [if_neg (Bool.eq_false_iff.1 hc2)] at hr0
    refine awp_skip ?_; try simp only [RR]
    refine awp_name fun F2 M2 hfr hH => ?_
    have g0 := hfr 0
    have g2 := hfr 2
    have g3 := hfr 3
    have gr0 := hH r0
    try simp only [hr0, List.length_map, exV, exL, RR, seval] at g0 g2 g3 gr0
    have f0 := g0; clear g0
    have f2 := g2; clear g2
    have f3 := g3; clear g3
    have hr0 := gr0; clear gr0
    clear hfr hH
    refine awp_seq_k fun K hK => ?_
    refine awp_region rfl ?_
    simp only [f0, f3, hr0, List.length_map, exV, exL, RR, seval]
    refine awpC_jd (hx) (by first | exact hr0 | (simp only [f0, f2, f3, hr0, List.length_map, exV, exL, upd_app, RR, seval]; done)) trivial fun a8 m8 w8 M3 hj8 hle8 hlt8 hn8x hk8x => ?_
    have hres := stW_step hres hj8
    have hr0 := hn8x; clear hn8x hk8x
    simp only [f0, f3, hr0, List.length_map, exV, exL, RR, seval]
    refine awpB_sealed ?_
    simp only [f0, f3, hr0, List.length_map, exV, exL, RR, seval]
    refine awpA_own (OwnL.nil 5 _) (by simp only [List.length_map, List.length_cons, List.length_nil]; omega) (fun _ => trivial) fun v4 M4 hown' hk' => ?_
    simp only [f0, f3, hr0, List.length_map, exV, exL, RR, seval]
    have gr0 := hk' r0 _ hr0 (by first | exact ((OwnL.nil 5 _)).nb' hr0 (by decide) | exact ho0 _ _ | assumption | (intro e; simp_all))
    have hr0 := gr0; clear gr0
    refine hK _ _ ?_; clear hK K
    refine awp_seq ?_
    refine awp_name fun F5 M5 hfr hH => ?_
    have g0 := hfr 0
    have g2 := hfr 2
    have g3 := hfr 3
    have gr0 := hH r0
    try simp only [f0, f2, f3, hr0, List.length_map, exV, exL, RR, seval] at g0 g2 g3 gr0
    have hown : OwnL 5 v4 ([a8].map Ex.row) M5 := by
      rw [List.map_cons, List.map_nil, Ex.row_eq]
      exact hown'.same hH
    have f0 := g0; clear g0
    have f2 := g2; clear g2
    have f3 := g3; clear g3
    have hr0 := gr0; clear gr0
    clear hfr hH
    refine awp_block ?_
    refine awp_while [0, 2] (T.length - m8) (fun k fr M => (∃ (m : Nat) (w' : Bool) (acc : List Ex), k = T.length - m ∧ n ≤ m ∧ m ≤ T.length ∧ acc.length ≤ m + 1 ∧ stW w' m (arglP T acc m) = res ∧ OwnL 5 (fr 3) (acc.map Ex.row) M ∧ M r0 = some (.rows 3 [[.isl 4 (T.map Tok.row), .int .i64 (m : Nat), .bool w']]))) ⟨m8, w8, [a8], rfl, hle8, hlt8, by simp, hres, by rw [f3]; exact hown, hr0⟩ ?_
    rintro k F6 M6 ⟨m, w', acc, rfl, hnm, hm, hal, hres, hown, hr0⟩ agx K0 hK0
    have f0 := (agx 0 rfl).trans f0
    have f2 := (agx 2 rfl).trans f2
    have ag0 := agree.refl [0, 2] F6
    clear agx
    obtain ⟨v3, f3⟩ : ∃ v, F6 3 = v := ⟨_, rfl⟩
    rw [f3] at hown
    rw [arglP_eq] at hres
    refine awp_seq ?_
    refine awp_seq_k fun K hK => ?_
    refine awp_region rfl ?_
    simp only [f0, hr0, List.length_map, exV, exL, RR, seval]
    refine awpC_jo (is_con r0 hT m w' hm [44] (by decide)) (by first | exact hr0 | (simp only [f0, f2, f3, hr0, List.length_map, exV, exL, upd_app, RR, seval]; done)) trivial fun M7 hn12x hk12x => ?_
    have hown := OwnL.kp hown hr0 (by decide) hk12x
    have hr0 := hn12x; clear hn12x hk12x
    simp only [f0, hr0, List.length_map, exV, exL, RR, seval]
    refine hK _ _ ?_; clear hK K
    refine awp_if _ rfl (fun hc => ?_) (fun hc => ?_)
    · have hw0 := hc; clear hc
      have hres := is_t hw0 hres
      rw [if_pos hw0] at hr0
      have hlt := isB_lt hw0 (by decide)
      refine awp_skip ?_; try simp only [RR]
      refine awp_block ?_
      refine awp_region rfl ?_
      simp only [f0, f3, hr0, List.length_map, exV, exL, RR, seval]
      refine awpC_jd (ih.expr 1 (m + 1) w' (by decide) (by decide) (by omega) (by omega)) (by first | exact hr0 | (simp only [f0, f2, f3, hr0, List.length_map, exV, exL, upd_app, RR, seval]; done)) trivial fun a15 m15 w15 M8 hj15 hle15 hlt15 hn15x hk15x => ?_
      have hres := stW_step hres hj15
      have hown := OwnL.kp hown hr0 (by decide) hk15x
      have hr0 := hn15x; clear hn15x hk15x
      simp only [f0, f3, hr0, List.length_map, exV, exL, RR, seval]
      refine awpB_sealed ?_
      simp only [f0, f3, hr0, List.length_map, exV, exL, RR, seval]
      refine awpA_own hown (by simp only [List.length_map, List.length_cons, List.length_nil]; omega) (fun _ => trivial) fun v6 M9 hown' hk' => ?_
      simp only [f0, f3, hr0, List.length_map, exV, exL, RR, seval]
      have gr0 := hk' r0 _ hr0 (by first | exact (hown).nb' hr0 (by decide) | exact ho0 _ _ | assumption | (intro e; simp_all))
      have hr0 := gr0; clear gr0
      try rw [IntWalk.i64_in _ (by omega)]
      refine hK0 (T.length - m15) _ _ (by omega) ⟨m15, w15, acc ++ [a15], rfl, by omega, hlt15, by simp only [List.length_append, List.length_cons, List.length_nil]; omega, hres, by rw [exL_snoc]; exact hown', by first | exact hr0 | (simp only [f0, f2, f3, hr0, List.length_map, exV, exL, upd_app, RR, seval]; done)⟩ (by repeat (first | exact ag0 | refine agree.upd rfl ?_))
    · have hw0 := hc; clear hc
      have hres := is_f hw0 hres
      rw [if_neg (Bool.eq_false_iff.1 hw0)] at hr0
      refine awp_exit ?_; simp only [RR, seval]
      refine awp_seq_k fun K hK => ?_
      refine awp_region rfl ?_
      simp only [f0, hr0, List.length_map, exV, exL, RR, seval]
      refine awpC_jd (jmust_con r0 hT m w' hm [41] (by decide)) (by first | exact hr0 | (simp only [f0, f2, f3, hr0, List.length_map, exV, exL, upd_app, RR, seval]; done)) trivial fun a19 m19 w19 M10 hj19 hle19 hlt19 hn19x hk19x => ?_
      have hres := stW_step hres hj19
      have hown := OwnL.kp hown hr0 (by decide) hk19x
      have hr0 := hn19x; clear hn19x hk19x
      simp only [f0, hr0, List.length_map, exV, exL, RR, seval]
      refine hK _ _ ?_; clear hK K
      refine awp_seq_k fun K hK => ?_
      refine awp_region rfl ?_
      simp only [f3, List.length_map, exV, exL, RR, seval]
      refine hK _ _ ?_; clear hK K
      refine awp_ret ?_; simp only [bodyQ, aresult, ares, f2, List.length_map, exV, exL, RR, seval]
      refine jgivesL (a := acc) hown (by decide) (by first | exact hr0 | (simp only [f0, f2, f3, hr0, List.length_map, exV, exL, upd_app, RR, seval]; done)) hres ?_ (by omega) (by omega)
      exact Sub.refl _
theorem jexprs_all (r0 : Nat) {T : List Tok} (hT : Sz T) (k : Nat) : ∀ n w, n ≤ T.length → T.length - n ≤ k → jatomC r0 T n w ∧ (∀ lo, 1 ≤ lo → lo ≤ 10 → jexprC r0 T lo n w) ∧ jargsC r0 T n w := by
  induction k using Nat.strongRecOn with
  | _ k ih =>
    intro n w hn hk
    have hb : BehJ r0 T n := ⟨fun m w' h1 h2 => (ih (T.length - m) (by omega) m w' h2 (Nat.le_refl _)).1, fun lo m w' l1 l2 h1 h2 => (ih (T.length - m) (by omega) m w' h2 (Nat.le_refl _)).2.1 lo l1 l2, fun m w' h1 h2 => (ih (T.length - m) (by omega) m w' h2 (Nat.le_refl _)).2.2⟩
    have ha := jatom_step r0 hT n w hn hb
    have hx : ∀ d lo, 1 ≤ lo → lo + d = 10 → jexprC r0 T lo n w := by
      intro d
      induction d with
      | zero => intro lo _ h; obtain rfl : lo = 10 := by omega
                exact jexpr_top r0 n w ha
      | succ d ihd => intro lo h1 h2; exact jexpr_step r0 hT lo n w h1 (by omega) hn (ihd (lo + 1) (by omega) (by omega)) hb
    have hx' : ∀ lo, 1 ≤ lo → lo ≤ 10 → jexprC r0 T lo n w := fun lo h1 h2 => hx (10 - lo) lo h1 (by omega)
    exact ⟨ha, hx', jargs_step r0 hT n w hn (hx' 1 (by decide) (by decide)) hb⟩
theorem jexpr_con (r0 : Nat) {T : List Tok} (hT : Sz T) (n : Nat) (w : Bool) (hn : n ≤ T.length) : JCon 34 [.int .i64 1] r0 T n w exV (stW w n (exprP T 1 n)) := (jexprs_all r0 hT _ n w hn (Nat.le_refl _)).2.1 1 (by decide) (by decide)
theorem jargs_con (r0 : Nat) {T : List Tok} (hT : Sz T) (n : Nat) (w : Bool) (hn : n ≤ T.length) : JCon 94 [] r0 T n w exL (stW w n (argsP T n)) := (jexprs_all r0 hT _ n w hn (Nat.le_refl _)).2.2
end Go.Proofs.YtlpeikljipknoaaDoor
