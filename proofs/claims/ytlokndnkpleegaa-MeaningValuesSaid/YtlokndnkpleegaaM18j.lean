/- Chapter 18, the program's: a byte that goes out, an array's word. -/
import Derived.Test.YtlokndnkpleegaaM18i
set_option linter.unusedSimpArgs false
set_option linter.unusedVariables false
set_option maxRecDepth 10000
namespace Go.Al
theorem RunH.put {cx : Cx} {br bv : Nat} {abs : List Nat} {st : RS} {vo v' : AV} {H H' : Hp} (h : RunH cx br bv abs st vo H) {c : UInt8} (hl : st.out.length < 65536) (ho : OwnL 1 v' (st.out.map rowB ++ [rowB c]) H')
    (hk : ∀ b o, H b = some o → vo ≠ .osl 1 b (st.out.map rowB).length → H' b = some o) (hg : ∀ b, off vo b → H b ≠ none → off v' b) :
    RunH cx br bv abs { st with out := st.out ++ [c] } v' (upd H' br (some (.rows 8 [[.isl 2 (cx.funs.map Cf.row), .osl 1 bv st.vars.length, .isl 1 (arrRows abs st.arrs), .str cx.inp, .int .i64 st.read, v', .int .i64 st.ticks, .int .i64 cx.fuel]]))) ∧
    keepsR br bv abs vo v' H (upd H' br (some (.rows 8 [[.isl 2 (cx.funs.map Cf.row), .osl 1 bv st.vars.length, .isl 1 (arrRows abs st.arrs), .str cx.inp, .int .i64 st.read, v', .int .i64 st.ticks, .int .i64 cx.fuel]]))) := by
  have n2 : bv ≠ br := h.nbr h.v
  have hob : off vo br := h.o.offsz h.r (by decide)
  have hob' : off v' br := hg br hob (by rw [h.r]; exact Option.some_ne_none _)
  refine ⟨⟨upd_same _ _ _, ?_, h.al, fun i b' l h1 h2 => ?_, h.nd, h.va, ?_, hg bv h.ov (by rw [h.v]; exact Option.some_ne_none _), fun b hb => hg b (h.oa b hb) (h.abs_some hb), h.uv, h.ua, ?_, h.rd, h.tk⟩, fun b o hb h1 h2 h3 h4 => ⟨?_, hg b h4 (by rw [hb]; exact Option.some_ne_none _)⟩⟩
  · rw [upd_ne _ _ n2]; exact hk _ _ h.v (h.ov _ _)
  · have hb := h.a i b' l h1 h2
    rw [upd_ne _ _ (h.nbr hb)]; exact hk _ _ hb (h.oa b' (List.mem_of_getElem? h1) _ _)
  · rw [List.map_append]
    exact ho.off hob' _
  · simp only [List.length_append, List.length_singleton]; omega
  · rw [upd_ne _ _ h1]; exact hk _ _ hb (h4 _ _)
end Go.Al
namespace Go.Proofs.Ytlokndnkpleegaa
open Go.Al
section
variable {cx : Cx} {r v : Nat} {abs : List Nat} {st : RS} {vo : AV} {H : Hp}
theorem put_con (hR : RunH cx r v abs st vo H) (n : Int) : Con env 67 [.ptr 8 r 0 0, .int .u32 n] H (postG cx r v abs vo H (fun _ => .tup []) (fun _ => True) (putR n st)) := by
  have hr := hR.r
  have hown := hR.o
  have hub := hR.ub
  have hlen : ∃ m, st.out.length = m ∧ (vo = .nsl ∧ m = 0 ∨ ∃ b, vo = .osl 1 b m) := ⟨_, rfl, by
    rcases hown with ⟨h1, h2⟩ | ⟨b, h1, h2⟩
    · exact .inl ⟨h1, by simpa using h2⟩
    · exact .inr ⟨b, by simpa using h1⟩⟩
  obtain ⟨m, hm, hvo⟩ := hlen
  by_cases hf : 65536 ≤ st.out.length
  · have zf : (65536 : Int) ≤ (m : Int) := by omega
    have e : putR n st = .fin 4 st := by unfold putR; rw [if_pos hf]
    rw [e]
    rcases hvo with ⟨rfl, rfl⟩ | ⟨b, rfl⟩
    · omega
    · skip
      refine con_of 23 [] Try.func67 rfl rfl rfl rfl ?_
      refine awp_seq ?_
      refine awp_seq_k fun K hK => ?_
      refine awp_region rfl ?_
      simp only [hr, zf, RR, seval]
      refine hK _ _ ?_; clear hK K
      refine awp_if true rfl (fun _ => ?_) (fun hc => by cases hc)
      refine awp_region rfl ?_
      simp only [hr, zf, RR, seval]
      simp only [thenQ_pan, bodyQ_pan]
      exact ⟨_, rfl, hR, keepsR.refl _ _ _ _ _⟩
  · have zf : ¬ (65536 : Int) ≤ (m : Int) := by omega
    have e : putR n st = .val () { st with out := st.out ++ [UInt8.ofNat (IntKind.wrap .u8 n).toNat] } := by unfold putR; rw [if_neg hf]
    rw [e]
    have hc : ((UInt8.ofNat (IntKind.wrap .u8 n).toNat).toNat : Int) = IntKind.wrap .u8 n := by
      have h1 : IntKind.wrap .u8 n = n % 256 := by simp [IntKind.wrap, IntKind.signed, IntKind.bits]
      rw [h1]
      have := Int.emod_nonneg n (show (256 : Int) ≠ 0 by decide)
      have := Int.emod_lt_of_pos n (show (0 : Int) < 256 by decide)
      simp only [UInt8.toNat_ofNat']
      omega
    have hrow : [AV.int .u8 (IntKind.wrap .u8 n)] = rowB (UInt8.ofNat (IntKind.wrap .u8 n).toNat) := by unfold rowB; rw [hc]
    generalize UInt8.ofNat (IntKind.wrap .u8 n).toNat = c at hrow
    clear hc e
    rcases hvo with ⟨rfl, rfl⟩ | ⟨b, rfl⟩
    all_goals
      have zg : ¬ (65536 : Int) ≤ 0 := by decide
      refine con_of 23 [] Try.func67 rfl rfl rfl rfl ?_
      refine awp_seq ?_
      refine awp_seq_k fun K hK => ?_
      refine awp_region rfl ?_
      simp only [hr, zf, zg, RR, seval]
      refine hK _ _ ?_; clear hK K
      refine awp_if false rfl (fun hc => by cases hc) (fun _ => ?_)
      refine awp_skip ?_; try simp only [RR]
      refine awp_region rfl ?_
      simp only [hr, zf, zg, RR, seval]
      refine awpB_sealed ?_
      simp only [hr, zf, zg, RR, seval]
      refine awpA_ownF hown (by simp only [List.length_map, List.length_cons, List.length_nil]; omega) (fun _ _ => trivial) fun v' H' ho' hk' hg' => ?_
      have hce := ho'.cells
      have hoe := ho'.one1
      have hr := hk' r _ hr (hown.offsz hr (by decide) _ _)
      simp only [hce, hoe, Option.bind_some, List.drop, hr, hr, zf, zg, RR, seval]
      simp only [bodyQ, aresult, ares]
      rw [hrow] at ho'
      obtain ⟨g1, g2⟩ := hR.put (by omega) ho' hk' hg'
      exact Gives.run ⟨v', ⟨rfl, trivial⟩, g1, g2⟩
theorem at_con (hR : RunH cx r v abs st vo H) {i : Nat} {x : Int} (hx : u32R x) {b : Nat} {l : List Int} (hb : abs[i]? = some b) (hl : st.arrs[i]? = some l) :
    Con env 66 [.ptr 8 r 0 0, .int .i64 i, .int .u32 x] H (postG cx r v abs vo H (fun j : Nat => .ptr 1 b j 0) (fun j => j < l.length) (if x.toNat < l.length then .val x.toNat st else .fin 3 st)) := by
  have hr := hR.r
  have hg := arrRows_get abs st.arrs i b l hb hl
  have hlen := (hR.ua l (List.mem_of_getElem? hl)).1
  obtain ⟨m, rfl⟩ := Int.eq_ofNat_of_zero_le hx.1
  have hx2 := hx.2
  have e1 : IntKind.wrap .u64 (m : Int) = (m : Int) := by simp [IntKind.wrap, IntKind.signed, IntKind.bits]; omega
  have e2 : IntKind.wrap .u64 (l.length : Int) = (l.length : Int) := by simp [IntKind.wrap, IntKind.signed, IntKind.bits]; omega
  rw [Int.toNat_natCast]
  by_cases hf : m < l.length
  · have zf : ¬ (l.length : Int) ≤ (m : Int) := by omega
    have zg : (m : Int) < (l.length : Int) := by omega
    rw [if_pos hf]
    refine con_of 26 [.tmp 6] Try.func66 rfl rfl rfl rfl ?_
    refine awp_seq_k fun K hK => ?_
    refine awp_region rfl ?_
    simp only [zf, zg, hg, e1, e2, RR, seval]
    refine hK _ _ ?_; clear hK K
    refine awp_seq_k fun K hK => ?_
    refine awp_region rfl ?_
    simp only [hr, zf, zg, hg, e1, e2, RR, seval]
    refine hK _ _ ?_; clear hK K
    refine awp_seq ?_
    refine awp_seq_k fun K hK => ?_
    refine awp_region rfl ?_
    simp only [hr, zf, zg, hg, e1, e2, RR, seval]
    refine hK _ _ ?_; clear hK K
    refine awp_if false rfl (fun hc => by cases hc) (fun _ => ?_)
    refine awp_skip ?_; try simp only [RR]
    refine awp_seq_k fun K hK => ?_
    refine awp_region rfl ?_
    simp only [hr, zf, zg, hg, e1, e2, RR, seval]
    refine hK _ _ ?_; clear hK K
    refine awp_ret ?_; simp only [bodyQ, aresult, ares, zf, zg, hg, e1, e2, RR, seval]
    exact Gives.run ⟨vo, ⟨rfl, hf⟩, hR, keepsR.refl _ _ _ _ _⟩
    skip
  · have zf : (l.length : Int) ≤ (m : Int) := by omega
    rw [if_neg hf]
    refine con_of 26 [.tmp 6] Try.func66 rfl rfl rfl rfl ?_
    refine awp_seq_k fun K hK => ?_
    refine awp_region rfl ?_
    simp only [zf, hg, e1, e2, RR, seval]
    refine hK _ _ ?_; clear hK K
    refine awp_seq_k fun K hK => ?_
    refine awp_region rfl ?_
    simp only [hr, zf, hg, e1, e2, RR, seval]
    refine hK _ _ ?_; clear hK K
    refine awp_seq ?_
    refine awp_seq_k fun K hK => ?_
    refine awp_region rfl ?_
    simp only [hr, zf, hg, e1, e2, RR, seval]
    refine hK _ _ ?_; clear hK K
    refine awp_if true rfl (fun _ => ?_) (fun hc => by cases hc)
    refine awp_region rfl ?_
    simp only [hr, zf, hg, e1, e2, RR, seval]
    simp only [thenQ_pan, bodyQ_pan]
    exact ⟨vo, rfl, hR, keepsR.refl _ _ _ _ _⟩
end
end Go.Proofs.Ytlokndnkpleegaa
