/- Chapter 18, the program's: Run. -/
import Derived.Test.YtlokndnkpleegaaM18q
import Derived.Test.YtlokndnkpleegaaAlQ3
set_option linter.unusedSimpArgs false
set_option linter.unusedVariables false
set_option maxRecDepth 10000
namespace Go.Al
/-- arrays that are being made -/
structure ArrH (b7 bv : Nat) (bs : List Nat) (A : List (List Int)) (va : AV) (H : Hp) : Prop where
  l : bs.length = A.length
  o : OwnL 1 va (arrRows bs A) H
  a : ∀ (i : Nat) b l, bs[i]? = some b → A[i]? = some l → H b = some (.rows 1 (l.map rowU))
  nd : bs.Nodup
  nv : bv ∉ bs
  n7 : b7 ∉ bs
  ov : off va bv
  o7 : off va b7
  ob : ∀ b ∈ bs, off va b
theorem ArrH.some {b7 bv : Nat} {bs : List Nat} {A : List (List Int)} {va : AV} {H : Hp} (h : ArrH b7 bv bs A va H) {b : Nat} (hb : b ∈ bs) : ∃ l, H b = some (.rows 1 l) := by
  obtain ⟨i, hi⟩ := List.getElem?_of_mem hb
  have hl : i < A.length := by have := (List.getElem?_eq_some_iff.1 hi).1; rw [← h.l]; exact this
  exact ⟨_, h.a i b _ hi (List.getElem?_eq_getElem hl)⟩
theorem own_sub {sz : Nat} {v : AV} {rows : List (List AV)} {H H' : Hp} (h : OwnL sz v rows H) (hk : ∀ b o, H b = Option.some o → H' b = Option.some o) : OwnL sz v rows H' := by
  rcases h with g | ⟨b, g1, g2⟩
  · exact .inl g
  · exact .inr ⟨b, g1, hk _ _ g2⟩
theorem ArrH.keep {b7 bv : Nat} {bs : List Nat} {A : List (List Int)} {va : AV} {H H' : Hp} (h : ArrH b7 bv bs A va H) (hk : ∀ b o, H b = Option.some o → H' b = Option.some o) : ArrH b7 bv bs A va H' :=
  { h with o := own_sub h.o hk, a := fun i b l h1 h2 => hk _ _ (h.a i b l h1 h2) }
theorem arrRows_snoc : ∀ (bs : List Nat) (A : List (List Int)) (b : Nat) (l : List Int), bs.length = A.length → arrRows (bs ++ [b]) (A ++ [l]) = arrRows bs A ++ [[.osl 1 b l.length]]
  | [], [], _, _, _ => rfl
  | x :: bs, y :: A, b, l, h => by simp only [List.cons_append, arrRows, arrRows_snoc bs A b l (by simpa using h)]
  | [], _ :: _, _, _, h => by simp at h
  | _ :: _, [], _, _, h => by simp at h
theorem ArrH.snoc {b7 bv : Nat} {bs : List Nat} {A : List (List Int)} {va v' : AV} {H H' : Hp} (h : ArrH b7 bv bs A va H) {b : Nat} {l : List Int} (hn : H b = none) (h7 : H b7 ≠ none) (hv : H bv ≠ none) (ho : OwnL 1 v' (arrRows bs A ++ [[.osl 1 b l.length]]) H')
    (hk : ∀ x o, upd H b (Option.some (.rows 1 (l.map rowU))) x = Option.some o → va ≠ .osl 1 x (arrRows bs A).length → H' x = Option.some o) (hg : ∀ x, off va x → upd H b (Option.some (.rows 1 (l.map rowU))) x ≠ none → off v' x) {b8 sz8 : Nat} {r8 : List (List AV)} (h8 : H' b8 = Option.some (.rows sz8 r8)) (o8 : AObj) (hs8 : sz8 ≠ 1 := by decide) :
    ArrH b7 bv (bs ++ [b]) (A ++ [l]) v' (upd H' b8 (Option.some o8)) := by
  have nb : ∀ x, H x ≠ none → x ≠ b := fun x hx e => hx (by rw [e]; exact hn)
  have obn : off va b := h.o.new hn
  have hup : ∀ x, x ≠ b → upd H b (Option.some (.rows 1 (l.map rowU))) x = H x := fun x hx => upd_ne _ _ hx
  have hbs : ∀ x ∈ bs, H x ≠ none := fun x hx => by obtain ⟨l, hl⟩ := h.some hx; rw [hl]; exact Option.some_ne_none _
  have hb' : H' b = Option.some (.rows 1 (l.map rowU)) := hk b _ (upd_same _ _ _) (obn _ _)
  have h1 : ∀ x l', H' x = Option.some (.rows 1 l') → x ≠ b8 := fun x l' hx e => by rw [e, h8] at hx; cases hx; exact hs8 rfl
  have ob8 : off v' b8 := ho.offsz h8 hs8
  refine ⟨by simp [h.l], by rw [arrRows_snoc _ _ _ _ h.l]; exact ho.off ob8 _, fun i x l' hx hl => ?_, ?_, ?_, ?_, hg bv h.ov (by rw [hup _ (nb _ hv)]; exact hv), hg b7 h.o7 (by rw [hup _ (nb _ h7)]; exact h7), fun x hx => ?_⟩
  · by_cases hi : i < bs.length
    · rw [List.getElem?_append_left hi] at hx
      rw [List.getElem?_append_left (by rw [← h.l]; exact hi)] at hl
      have hxb := h.a i x l' hx hl
      have hx' := hk x _ (by rw [hup _ (nb _ (by rw [hxb]; exact Option.some_ne_none _))]; exact hxb) (h.ob x (List.mem_of_getElem? hx) _ _)
      rw [upd_ne _ _ (h1 _ _ hx')]; exact hx'
    · rw [List.getElem?_append_right (by omega)] at hx
      rw [List.getElem?_append_right (by rw [← h.l]; omega), ← h.l] at hl
      obtain ⟨q1, q2⟩ := List.getElem?_eq_some_iff.1 hx
      have q3 : i - bs.length = 0 := by simpa using q1
      rw [q3] at hx hl
      simp only [List.getElem?_cons_zero, Option.some.injEq] at hx hl
      subst hx; subst hl
      rw [upd_ne _ _ (h1 _ _ hb')]; exact hb'
  · rw [List.nodup_append]
    refine ⟨h.nd, by simp, fun x hx y hy e => ?_⟩
    rw [List.mem_singleton] at hy
    subst hy; subst e
    exact hbs _ hx hn
  · simp only [List.mem_append, List.mem_singleton, not_or]
    exact ⟨h.nv, nb _ hv⟩
  · simp only [List.mem_append, List.mem_singleton, not_or]
    exact ⟨h.n7, nb _ h7⟩
  · rcases List.mem_append.1 hx with hx | hx
    · exact hg x (h.ob x hx) (by rw [hup _ (nb _ (hbs x hx))]; exact hbs x hx)
    · rw [List.mem_singleton] at hx
      subst hx
      exact hg x obn (by rw [upd_same]; exact Option.some_ne_none _)
theorem RunH.sub {cx : Cx} {r v : Nat} {abs : List Nat} {st : RS} {vo : AV} {H H' : Hp} (h : RunH cx r v abs st vo H) (hk : ∀ b o, H b = Option.some o → H' b = Option.some o) : RunH cx r v abs st vo H' :=
  { h with r := hk _ _ h.r, v := hk _ _ h.v, a := fun i b l h1 h2 => hk _ _ (h.a i b l h1 h2), o := own_sub h.o hk }
end Go.Al
namespace Go.Proofs.Ytlokndnkpleegaa
open Go.Al
/-- a run of statements that is not handed block b7 -/
theorem awpC_Sless {F : Nat → Prop} {ds : List (Option Nat)} {Q : APost} {d : Option Nat} {rest : List Oper} {fr : Fr} {H : Hp} {g : FuncId} {args : List AV} {cx : Cx} {r v : Nat} {abs : List Nat} {vo : AV} {bo n b7 : Nat} {l7 : List (List AV)} {o : Rz (Option Int × List Int)}
    (hc : Con env g args (upd H b7 none) (postS cx r v abs vo bo n (upd H b7 none) o)) (h7 : H b7 = some (.rows 1 l7)) (hF : ∀ b, b ≠ b7 → F b)
    (hp : ∀ e s vo' H', o = .fin e s → RunH cx r v abs s vo' H' → H' b7 = some (.rows 1 l7) → off vo' b7 → (∀ b x, H b = some x → b ≠ r → b ≠ v → b ∉ abs → off vo b → b ≠ bo → H' b = some x) → Q (.pan (endV e)) frU H')
    (hv : ∀ p s vo' H', o = .val p s → RunH cx r v abs s vo' H' → H' b7 = some (.rows 1 l7) → off vo' b7 → (∀ b x, H b = some x → b ≠ r → b ≠ v → b ∉ abs → off vo b → b ≠ bo → H' b = some x) → awpL env F ds Q rest (putF fr d (.tup [.int .u32 (p.1.getD 0), .bool p.1.isSome])) H') : awpC env F ds Q d rest fr H g args := by
  have hsub : hsub (upd H b7 none) H := fun b x hb => by
    by_cases e : b = b7
    · subst e; rw [upd_same] at hb; cases hb
    · rw [upd_ne _ _ e] at hb; exact hb
  refine awpC_con hc (SubL.refl _) hsub (fun b hb => hF b fun e => hb (by rw [e, upd_same])) fun ae H' ⟨vo', h1, h2, h3⟩ hnew => ?_
  have hn7 : H' b7 = none := by
    cases hq : H' b7 with
    | none => rfl
    | some x =>
      rcases hnew b7 (by rw [hq]; exact Option.some_ne_none _) with h | h
      · exact absurd (upd_same _ _ _) h
      · rw [h7] at h; cases h
  have hk : ∀ b x, H' b = some x → hjoin H' (upd H b7 none) H b = some x := fun b x hb => by simp only [hjoin, hb]
  have g7 : hjoin H' (upd H b7 none) H b7 = some (.rows 1 l7) := by simp only [hjoin, hn7, upd_same, Option.isSome_none, Bool.false_eq_true, if_false]; exact h7
  have go7 : off vo' b7 := fun s n e => h2.o.there s b7 n e hn7
  have gk : ∀ b x, H b = some x → b ≠ r → b ≠ v → b ∉ abs → off vo b → b ≠ bo → hjoin H' (upd H b7 none) H b = some x := fun b x hb q1 q2 q3 q4 q5 => by
    by_cases e : b = b7
    · subst e; rw [g7, ← h7, hb]
    · exact hk b x (h3 b x (by rw [upd_ne _ _ e]; exact hb) q1 q2 q3 q4 q5).1
  have gR := h2.sub hk
  cases o with
  | val p s =>
    obtain ⟨h1, _⟩ := h1
    subst h1
    exact hv p s vo' _ rfl gR g7 go7 gk
  | fin e s =>
    subst h1
    exact hp e s vo' _ rfl gR g7 go7 gk
def zz (a : Ar) : List Int := List.replicate a.size.toNat 0
def cxP (p : Pg) (inp : Str) (fu : Int) : Cx := ⟨p.funs.map (cfP (outP p)), inp, (if fu < 0 then 0 else fu).toNat⟩
/-- what the runs of a program ask of it -/
structure RunOk (p : Pg) : Prop where
  ok : p.ok
  n : (globL p).Nodup
  nl : ∀ f ∈ p.funs, (namesL f).Nodup
  v : p.vars.length ≤ 10000
  a : p.arrs.length ≤ 10000
  f : p.funs.length ≤ 10000
  f1 : 1 ≤ p.funs.length
  fs : ∀ f ∈ p.funs, f.params.length ≤ 10000 ∧ f.locs.length ≤ 1100000 ∧ szS f.body ≤ 1000000
  sz : ∀ a ∈ p.arrs, 0 ≤ a.size ∧ a.size ≤ 4096
set_option maxHeartbeats 8000000 in
theorem Run_con (p : Pg) (hp : RunOk p) (inp : Str) (hin : inp.length ≤ 2000000) (fu : Int) (hfu : i64R fu) {n : Nat} {e : Int} {out : Str} {t : Nat} (hrun : runR (cxP p inp fu) n p.vars.length (p.arrs.map fun a => a.size.toNat) = some (e, out, t)) :
    PCon env 14 [p.av, .str inp, .int .i64 fu] (resV e out t) := by
  have hprep := prepare_con p hp.n hp.nl (by have := hp.v; omega) (by have := hp.a; omega) (by have := hp.f; omega) (fun f hf => by have := hp.fs f hf; omega)
  have hfl : ((cxP p inp fu).fuel : Int) = if fu < 0 then 0 else fu := by
    show (((if fu < 0 then 0 else fu).toNat : Nat) : Int) = _
    split <;> omega
  have hx : CxOk (cxP p inp fu) := ⟨hin, by have := hfu.2; split at hfl <;> omega, fun f hf => by
    obtain ⟨g, hg, rfl⟩ := List.mem_map.1 hf
    have := hp.fs g hg
    show g.params.length + g.locs.length ≤ _
    omega, fun f hf => by
    obtain ⟨g, hg, rfl⟩ := List.mem_map.1 hf
    exact (hp.ok.funs g hg).body⟩
  have hlast : p.funs.length - 1 < p.funs.length := by have := hp.f1; omega
  have hg0 := List.getElem?_eq_getElem hlast
  have hgs := hp.fs _ (List.getElem_mem hlast)
  have hgok := (hp.ok.funs _ (List.getElem_mem hlast)).body
  generalize p.funs[p.funs.length - 1] = g at hg0 hgs hgok
  have hmain : (cxP p inp fu).main = some (cfP (outP p) g) := by
    show (p.funs.map (cfP (outP p)))[(p.funs.map (cfP (outP p))).length - 1]? = _
    rw [List.length_map, List.getElem?_map, hg0]; rfl
  have hrowg : (((p.funs.map (cfP (outP p))).map Cf.row)[p.funs.length - 1]?) = some [.int .i64 ((g.params.length + g.locs.length : Nat) : Int), .isl 6 (g.body.map (cS (cfP (outP p) g).res))] := by
    rw [List.getElem?_map, List.getElem?_map, hg0]; rfl
  obtain ⟨o, hev, hend⟩ : ∃ o, evL (cxP p inp fu) n (cfP (outP p) g).res (List.replicate (g.params.length + g.locs.length) 0) g.body (RS.init p.vars.length (p.arrs.map fun a => a.size.toNat)) = some o ∧ endR o = (e, out, t) := by
    unfold runR at hrun
    rw [hmain] at hrun
    simp only [Option.bind_some, Option.map_eq_some_iff] at hrun
    exact hrun
  clear hrun hmain
  have hC := prgC (cx := cxP p inp fu) hx
  have hinit : RS.init p.vars.length (p.arrs.map fun a => a.size.toNat) = ⟨List.replicate p.vars.length 0, p.arrs.map zz, 0, [], 0⟩ := by simp [RS.init, zz, List.map_map]
  rw [hinit] at hev
  have hcf : (cxP p inp fu).funs = p.funs.map (cfP (outP p)) := rfl
  have hci : (cxP p inp fu).inp = inp := rfl
  have hfu2 := hx.fuel
  generalize (cfP (outP p) g).res = rsg at *
  generalize outP p = G at *
  generalize cxP p inp fu = cx at *
  obtain ⟨vs, aa, fs⟩ := p
  obtain ⟨hok, _, _, hv, ha, hf, hf1, _, hsz⟩ := hp
  simp only [Pg.av, Pg.row] at hprep ⊢
  simp only at hev hcf hrowg hg0 hv ha hf hf1 hsz
  clear hok hfu hin hx
  generalize hwn : g.params.length + g.locs.length = wn at *
  have hwb : wn ≤ 1110000 := by omega
  have e1 : (4 : Int) * (vs.length : Int) ≤ 281474976710656 := by omega
  have e2 : (4 : Int) * (wn : Int) ≤ 281474976710656 := by omega
  have e3 : IntKind.wrap .i64 ((fs.length : Int) - 1) = ((fs.length - 1 : Nat) : Int) := by rw [IntWalk.i64_in _ (by omega)]; omega
  have hFR : (fs.map (cfP G)).map Cf.row = cx.funs.map Cf.row := by rw [hcf]
  have hFl : (cx.funs.map Cf.row).length = fs.length := by rw [hcf, List.length_map, List.length_map]
  rw [hFR] at hprep hrowg
  obtain ⟨fl, hfl2⟩ : ∃ fl : Int, fl = (cx.fuel : Int) := ⟨_, rfl⟩
  have hflx : (if fu < 0 then 0 else fu) = fl := by rw [hfl2, hfl]
  generalize hFRe : cx.funs.map Cf.row = FR at *
  refine con_of_X 75 Try.func14 rfl rfl rfl ?_
  refine awpX_seq_k fun K hK => ?_
  refine awp_region rfl ?_
  simp only [e1, e2, e3, hflx, List.length_map, RR, seval]
  refine awpN_intro fun b3 hn3 => ?_
  simp only [e1, e2, e3, hflx, List.length_map, RR, seval]
  refine awpN_intro fun b6 hn6 => ?_
  have nb6_b3 : b6 ≠ b3 := fun e => by rw [e] at hn6; simp only [RR, seval, reduceCtorEq] at hn6
  have nb3_b6 : b3 ≠ b6 := fun e => nb6_b3 e.symm
  simp only [nb6_b3, nb3_b6, e1, e2, e3, hflx, List.length_map, RR, seval]
  refine hK _ _ ?_; clear hK K
  refine awpX_seq_k fun K hK => ?_
  refine awp_cutP (fun fr M => ∃ b7 b16 b21, fr 3 = .ptr 3 b3 0 0 ∧ fr 6 = .ptr 3 b6 0 0 ∧ fr 7 = .ptr 1 b7 0 0 ∧ M b3 = some (.rows 3 [[.isl 1 (vs.map strRow), .isl 2 (aa.map Ar.row), .isl 5 (fs.map Fu.row)]]) ∧ M b6 = some (.rows 3 [[.int .i64 0, .str [], .int .i64 0]]) ∧ M b7 = some (.rows 1 [[.ptr 8 b21 0 0]]) ∧ M b16 = some (.rows 1 (List.replicate vs.length [.int .u32 0])) ∧ M b21 = some (.rows 8 [[.isl 2 FR, .osl 1 b16 vs.length, .nsl, .str inp, .int .i64 0, .nsl, .int .i64 0, .int .i64 fl]]) ∧ b7 ≠ b16 ∧ b3 ≠ b6) (fun KR1 hKR1 => ?_) ?_
  · refine awp_region_any (fun x => x ≠ b3) draws (by kernel_rfl) fun hd => ?_
    refine any_plan [(0, 0), (2, 3), (3, 0), (4, 3), (6, 3), (7, 3), (8, 3)] hd (m := 6) rfl (by kernel_rfl) rfl rfl ?_
    simp only [emitF, markOf, EM, nb6_b3, nb3_b6, e1, e2, e3, hflx, List.length_map, RR, seval]
    refine any_branch hd (by kernel_rfl : Region.ready .any _ _ = [1, 5, 11]) (by simp) ⟨?_, ?_, ?_, trivial⟩
    · simp only [emitF, markOf, EM, nb6_b3, nb3_b6, e1, e2, e3, hflx, List.length_map, RR, seval]
      refine awpC_pure' (hprep) ?_
      simp only [emitF, markOf, EM, nb6_b3, nb3_b6, e1, e2, e3, hflx, List.length_map, RR, seval]
      refine any_branch hd (by kernel_rfl : Region.ready .any _ _ = [5, 11]) (by simp) ⟨?_, ?_, trivial⟩
      · simp only [emitF, markOf, EM, nb6_b3, nb3_b6, e1, e2, e3, hflx, List.length_map, RR, seval]
        refine awpN_intro fun b16 hn16 => ?_
        have nb16_b3 : b16 ≠ b3 := fun e => by rw [e] at hn16; simp only [nb6_b3, nb3_b6, RR, seval, reduceCtorEq] at hn16
        have nb3_b16 : b3 ≠ b16 := fun e => nb16_b3 e.symm
        have nb16_b6 : b16 ≠ b6 := fun e => by rw [e] at hn16; simp only [nb6_b3, nb3_b6, RR, seval, reduceCtorEq] at hn16
        have nb6_b16 : b6 ≠ b16 := fun e => nb16_b6 e.symm
        simp only [emitF, markOf, EM, nb6_b3, nb3_b6, nb16_b3, nb3_b16, nb16_b6, nb6_b16, e1, e2, e3, hflx, List.length_map, RR, seval]
        refine any_plan [(9, 3)] hd (m := 3) rfl (by kernel_rfl) rfl rfl ?_
        simp only [emitF, markOf, EM, nb6_b3, nb3_b6, nb16_b3, nb3_b16, nb16_b6, nb6_b16, e1, e2, e3, hflx, List.length_map, RR, seval]
        refine any_branch hd (by kernel_rfl : Region.ready .any _ _ = [10, 11]) (by simp) ⟨?_, ?_, trivial⟩
        · simp only [emitF, markOf, EM, nb6_b3, nb3_b6, nb16_b3, nb3_b16, nb16_b6, nb6_b16, e1, e2, e3, hflx, List.length_map, RR, seval]
          refine awpN_intro fun b21 hn21 => ?_
          have nb21_b3 : b21 ≠ b3 := fun e => by rw [e] at hn21; simp only [nb6_b3, nb3_b6, nb16_b3, nb3_b16, RR, seval, reduceCtorEq] at hn21
          have nb3_b21 : b3 ≠ b21 := fun e => nb21_b3 e.symm
          have nb21_b6 : b21 ≠ b6 := fun e => by rw [e] at hn21; simp only [nb6_b3, nb3_b6, nb16_b6, nb6_b16, RR, seval, reduceCtorEq] at hn21
          have nb6_b21 : b6 ≠ b21 := fun e => nb21_b6 e.symm
          have nb21_b16 : b21 ≠ b16 := fun e => by rw [e] at hn21; simp only [nb16_b3, nb3_b16, nb16_b6, nb6_b16, RR, seval, reduceCtorEq] at hn21
          have nb16_b21 : b16 ≠ b21 := fun e => nb21_b16 e.symm
          simp only [emitF, markOf, EM, nb6_b3, nb3_b6, nb16_b3, nb3_b16, nb16_b6, nb6_b16, nb21_b3, nb3_b21, nb21_b6, nb6_b21, nb21_b16, nb16_b21, e1, e2, e3, hflx, List.length_map, RR, seval]
          refine any_plan [(11, 1), (12, 1)] hd (m := 0) rfl (by kernel_rfl) rfl rfl ?_
          simp only [emitF, markOf, EM, nb6_b3, nb3_b6, nb16_b3, nb3_b16, nb16_b6, nb6_b16, nb21_b3, nb3_b21, nb21_b6, nb6_b21, nb21_b16, nb16_b21, e1, e2, e3, hflx, List.length_map, RR, seval]
          refine awpN_intro fun b7 hn7 => ?_
          have nb7_b3 : b7 ≠ b3 := fun e => by rw [e] at hn7; simp only [nb6_b3, nb3_b6, nb16_b3, nb3_b16, nb21_b3, nb3_b21, RR, seval, reduceCtorEq] at hn7
          have nb3_b7 : b3 ≠ b7 := fun e => nb7_b3 e.symm
          have nb7_b6 : b7 ≠ b6 := fun e => by rw [e] at hn7; simp only [nb6_b3, nb3_b6, nb16_b6, nb6_b16, nb21_b6, nb6_b21, RR, seval, reduceCtorEq] at hn7
          have nb6_b7 : b6 ≠ b7 := fun e => nb7_b6 e.symm
          have nb7_b16 : b7 ≠ b16 := fun e => by rw [e] at hn7; simp only [nb16_b3, nb3_b16, nb16_b6, nb6_b16, nb21_b16, nb16_b21, RR, seval, reduceCtorEq] at hn7
          have nb16_b7 : b16 ≠ b7 := fun e => nb7_b16 e.symm
          have nb7_b21 : b7 ≠ b21 := fun e => by rw [e] at hn7; simp only [nb21_b3, nb3_b21, nb21_b6, nb6_b21, nb21_b16, nb16_b21, RR, seval, reduceCtorEq] at hn7
          have nb21_b7 : b21 ≠ b7 := fun e => nb7_b21 e.symm
          simp only [emitF, markOf, EM, nb6_b3, nb3_b6, nb16_b3, nb3_b16, nb16_b6, nb6_b16, nb21_b3, nb3_b21, nb21_b6, nb6_b21, nb21_b16, nb16_b21, nb7_b3, nb3_b7, nb7_b6, nb6_b7, nb7_b16, nb16_b7, nb7_b21, nb21_b7, e1, e2, e3, hflx, List.length_map, RR, seval]
          refine any_done (by kernel_rfl) ?_
          simp only [nb6_b3, nb3_b6, nb16_b3, nb3_b16, nb16_b6, nb6_b16, nb21_b3, nb3_b21, nb21_b6, nb6_b21, nb21_b16, nb16_b21, nb7_b3, nb3_b7, nb7_b6, nb6_b7, nb7_b16, nb16_b7, nb7_b21, nb21_b7, e1, e2, e3, hflx, List.length_map, RR, seval]
          refine hKR1 _ _ ⟨b7, b16, b21, rfl, rfl, rfl, ?_, ?_, ?_, ?_, ?_, nb7_b16, nb3_b6⟩ <;> first | rfl | (simp only [nb6_b3, nb3_b6, nb16_b3, nb3_b16, nb16_b6, nb6_b16, nb21_b3, nb3_b21, nb21_b6, nb6_b21, nb21_b16, nb16_b21, nb7_b3, nb3_b7, nb7_b6, nb6_b7, nb7_b16, nb16_b7, nb7_b21, nb21_b7, e1, e2, e3, hflx, List.length_map, upd_app, RR, seval]; done) | (simp only [nb6_b3, nb3_b6, nb16_b3, nb3_b16, nb16_b6, nb6_b16, nb21_b3, nb3_b21, nb21_b6, nb6_b21, nb21_b16, nb16_b21, nb7_b3, nb3_b7, nb7_b6, nb6_b7, nb7_b16, nb16_b7, nb7_b21, nb21_b7, e1, e2, e3, hflx, List.length_map, upd_app, RR, seval]; rfl)
        · simp only [emitF, markOf, EM, nb6_b3, nb3_b6, nb16_b3, nb3_b16, nb16_b6, nb6_b16, e1, e2, e3, hflx, List.length_map, RR, seval]
          refine awpN_intro fun b7 hn7 => ?_
          have nb7_b3 : b7 ≠ b3 := fun e => by rw [e] at hn7; simp only [nb6_b3, nb3_b6, nb16_b3, nb3_b16, RR, seval, reduceCtorEq] at hn7
          have nb3_b7 : b3 ≠ b7 := fun e => nb7_b3 e.symm
          have nb7_b6 : b7 ≠ b6 := fun e => by rw [e] at hn7; simp only [nb6_b3, nb3_b6, nb16_b6, nb6_b16, RR, seval, reduceCtorEq] at hn7
          have nb6_b7 : b6 ≠ b7 := fun e => nb7_b6 e.symm
          have nb7_b16 : b7 ≠ b16 := fun e => by rw [e] at hn7; simp only [nb16_b3, nb3_b16, nb16_b6, nb6_b16, RR, seval, reduceCtorEq] at hn7
          have nb16_b7 : b16 ≠ b7 := fun e => nb7_b16 e.symm
          simp only [emitF, markOf, EM, nb6_b3, nb3_b6, nb16_b3, nb3_b16, nb16_b6, nb6_b16, nb7_b3, nb3_b7, nb7_b6, nb6_b7, nb7_b16, nb16_b7, e1, e2, e3, hflx, List.length_map, RR, seval]
          refine any_plan [(10, 1), (12, 1)] hd (m := 0) rfl (by kernel_rfl) rfl rfl ?_
          simp only [emitF, markOf, EM, nb6_b3, nb3_b6, nb16_b3, nb3_b16, nb16_b6, nb6_b16, nb7_b3, nb3_b7, nb7_b6, nb6_b7, nb7_b16, nb16_b7, e1, e2, e3, hflx, List.length_map, RR, seval]
          refine awpN_intro fun b21 hn21 => ?_
          have nb21_b3 : b21 ≠ b3 := fun e => by rw [e] at hn21; simp only [nb6_b3, nb3_b6, nb16_b3, nb3_b16, nb7_b3, nb3_b7, RR, seval, reduceCtorEq] at hn21
          have nb3_b21 : b3 ≠ b21 := fun e => nb21_b3 e.symm
          have nb21_b6 : b21 ≠ b6 := fun e => by rw [e] at hn21; simp only [nb6_b3, nb3_b6, nb16_b6, nb6_b16, nb7_b6, nb6_b7, RR, seval, reduceCtorEq] at hn21
          have nb6_b21 : b6 ≠ b21 := fun e => nb21_b6 e.symm
          have nb21_b16 : b21 ≠ b16 := fun e => by rw [e] at hn21; simp only [nb16_b3, nb3_b16, nb16_b6, nb6_b16, nb7_b16, nb16_b7, RR, seval, reduceCtorEq] at hn21
          have nb16_b21 : b16 ≠ b21 := fun e => nb21_b16 e.symm
          have nb21_b7 : b21 ≠ b7 := fun e => by rw [e] at hn21; simp only [nb7_b3, nb3_b7, nb7_b6, nb6_b7, nb7_b16, nb16_b7, RR, seval, reduceCtorEq] at hn21
          have nb7_b21 : b7 ≠ b21 := fun e => nb21_b7 e.symm
          simp only [emitF, markOf, EM, nb6_b3, nb3_b6, nb16_b3, nb3_b16, nb16_b6, nb6_b16, nb7_b3, nb3_b7, nb7_b6, nb6_b7, nb7_b16, nb16_b7, nb21_b3, nb3_b21, nb21_b6, nb6_b21, nb21_b16, nb16_b21, nb21_b7, nb7_b21, e1, e2, e3, hflx, List.length_map, RR, seval]
          refine any_done (by kernel_rfl) ?_
          simp only [nb6_b3, nb3_b6, nb16_b3, nb3_b16, nb16_b6, nb6_b16, nb7_b3, nb3_b7, nb7_b6, nb6_b7, nb7_b16, nb16_b7, nb21_b3, nb3_b21, nb21_b6, nb6_b21, nb21_b16, nb16_b21, nb21_b7, nb7_b21, e1, e2, e3, hflx, List.length_map, RR, seval]
          refine hKR1 _ _ ⟨b7, b16, b21, rfl, rfl, rfl, ?_, ?_, ?_, ?_, ?_, nb7_b16, nb3_b6⟩ <;> first | rfl | (simp only [nb6_b3, nb3_b6, nb16_b3, nb3_b16, nb16_b6, nb6_b16, nb7_b3, nb3_b7, nb7_b6, nb6_b7, nb7_b16, nb16_b7, nb21_b3, nb3_b21, nb21_b6, nb6_b21, nb21_b16, nb16_b21, nb21_b7, nb7_b21, e1, e2, e3, hflx, List.length_map, upd_app, RR, seval]; done) | (simp only [nb6_b3, nb3_b6, nb16_b3, nb3_b16, nb16_b6, nb6_b16, nb7_b3, nb3_b7, nb7_b6, nb6_b7, nb7_b16, nb16_b7, nb21_b3, nb3_b21, nb21_b6, nb6_b21, nb21_b16, nb16_b21, nb21_b7, nb7_b21, e1, e2, e3, hflx, List.length_map, upd_app, RR, seval]; rfl)
      · simp only [emitF, markOf, EM, nb6_b3, nb3_b6, e1, e2, e3, hflx, List.length_map, RR, seval]
        refine awpN_intro fun b7 hn7 => ?_
        have nb7_b3 : b7 ≠ b3 := fun e => by rw [e] at hn7; simp only [nb6_b3, nb3_b6, RR, seval, reduceCtorEq] at hn7
        have nb3_b7 : b3 ≠ b7 := fun e => nb7_b3 e.symm
        have nb7_b6 : b7 ≠ b6 := fun e => by rw [e] at hn7; simp only [nb6_b3, nb3_b6, RR, seval, reduceCtorEq] at hn7
        have nb6_b7 : b6 ≠ b7 := fun e => nb7_b6 e.symm
        simp only [emitF, markOf, EM, nb6_b3, nb3_b6, nb7_b3, nb3_b7, nb7_b6, nb6_b7, e1, e2, e3, hflx, List.length_map, RR, seval]
        refine any_plan [(5, 1), (9, 3), (10, 1), (12, 1)] hd (m := 0) rfl (by kernel_rfl) rfl rfl ?_
        simp only [emitF, markOf, EM, nb6_b3, nb3_b6, nb7_b3, nb3_b7, nb7_b6, nb6_b7, e1, e2, e3, hflx, List.length_map, RR, seval]
        refine awpN_intro fun b16 hn16 => ?_
        have nb16_b3 : b16 ≠ b3 := fun e => by rw [e] at hn16; simp only [nb6_b3, nb3_b6, nb7_b3, nb3_b7, RR, seval, reduceCtorEq] at hn16
        have nb3_b16 : b3 ≠ b16 := fun e => nb16_b3 e.symm
        have nb16_b6 : b16 ≠ b6 := fun e => by rw [e] at hn16; simp only [nb6_b3, nb3_b6, nb7_b6, nb6_b7, RR, seval, reduceCtorEq] at hn16
        have nb6_b16 : b6 ≠ b16 := fun e => nb16_b6 e.symm
        have nb16_b7 : b16 ≠ b7 := fun e => by rw [e] at hn16; simp only [nb7_b3, nb3_b7, nb7_b6, nb6_b7, RR, seval, reduceCtorEq] at hn16
        have nb7_b16 : b7 ≠ b16 := fun e => nb16_b7 e.symm
        simp only [emitF, markOf, EM, nb6_b3, nb3_b6, nb7_b3, nb3_b7, nb7_b6, nb6_b7, nb16_b3, nb3_b16, nb16_b6, nb6_b16, nb16_b7, nb7_b16, e1, e2, e3, hflx, List.length_map, RR, seval]
        refine awpN_intro fun b21 hn21 => ?_
        have nb21_b3 : b21 ≠ b3 := fun e => by rw [e] at hn21; simp only [nb6_b3, nb3_b6, nb7_b3, nb3_b7, nb16_b3, nb3_b16, RR, seval, reduceCtorEq] at hn21
        have nb3_b21 : b3 ≠ b21 := fun e => nb21_b3 e.symm
        have nb21_b6 : b21 ≠ b6 := fun e => by rw [e] at hn21; simp only [nb6_b3, nb3_b6, nb7_b6, nb6_b7, nb16_b6, nb6_b16, RR, seval, reduceCtorEq] at hn21
        have nb6_b21 : b6 ≠ b21 := fun e => nb21_b6 e.symm
        have nb21_b7 : b21 ≠ b7 := fun e => by rw [e] at hn21; simp only [nb7_b3, nb3_b7, nb7_b6, nb6_b7, nb16_b7, nb7_b16, RR, seval, reduceCtorEq] at hn21
        have nb7_b21 : b7 ≠ b21 := fun e => nb21_b7 e.symm
        have nb21_b16 : b21 ≠ b16 := fun e => by rw [e] at hn21; simp only [nb16_b3, nb3_b16, nb16_b6, nb6_b16, nb16_b7, nb7_b16, RR, seval, reduceCtorEq] at hn21
        have nb16_b21 : b16 ≠ b21 := fun e => nb21_b16 e.symm
        simp only [emitF, markOf, EM, nb6_b3, nb3_b6, nb7_b3, nb3_b7, nb7_b6, nb6_b7, nb16_b3, nb3_b16, nb16_b6, nb6_b16, nb16_b7, nb7_b16, nb21_b3, nb3_b21, nb21_b6, nb6_b21, nb21_b7, nb7_b21, nb21_b16, nb16_b21, e1, e2, e3, hflx, List.length_map, RR, seval]
        refine any_done (by kernel_rfl) ?_
        simp only [nb6_b3, nb3_b6, nb7_b3, nb3_b7, nb7_b6, nb6_b7, nb16_b3, nb3_b16, nb16_b6, nb6_b16, nb16_b7, nb7_b16, nb21_b3, nb3_b21, nb21_b6, nb6_b21, nb21_b7, nb7_b21, nb21_b16, nb16_b21, e1, e2, e3, hflx, List.length_map, RR, seval]
        refine hKR1 _ _ ⟨b7, b16, b21, rfl, rfl, rfl, ?_, ?_, ?_, ?_, ?_, nb7_b16, nb3_b6⟩ <;> first | rfl | (simp only [nb6_b3, nb3_b6, nb7_b3, nb3_b7, nb7_b6, nb6_b7, nb16_b3, nb3_b16, nb16_b6, nb6_b16, nb16_b7, nb7_b16, nb21_b3, nb3_b21, nb21_b6, nb6_b21, nb21_b7, nb7_b21, nb21_b16, nb16_b21, e1, e2, e3, hflx, List.length_map, upd_app, RR, seval]; done) | (simp only [nb6_b3, nb3_b6, nb7_b3, nb3_b7, nb7_b6, nb6_b7, nb16_b3, nb3_b16, nb16_b6, nb6_b16, nb16_b7, nb7_b16, nb21_b3, nb3_b21, nb21_b6, nb6_b21, nb21_b7, nb7_b21, nb21_b16, nb16_b21, e1, e2, e3, hflx, List.length_map, upd_app, RR, seval]; rfl)
    · simp only [emitF, markOf, EM, nb6_b3, nb3_b6, e1, e2, e3, hflx, List.length_map, RR, seval]
      refine awpN_intro fun b16 hn16 => ?_
      have nb16_b3 : b16 ≠ b3 := fun e => by rw [e] at hn16; simp only [nb6_b3, nb3_b6, RR, seval, reduceCtorEq] at hn16
      have nb3_b16 : b3 ≠ b16 := fun e => nb16_b3 e.symm
      have nb16_b6 : b16 ≠ b6 := fun e => by rw [e] at hn16; simp only [nb6_b3, nb3_b6, RR, seval, reduceCtorEq] at hn16
      have nb6_b16 : b6 ≠ b16 := fun e => nb16_b6 e.symm
      simp only [emitF, markOf, EM, nb6_b3, nb3_b6, nb16_b3, nb3_b16, nb16_b6, nb6_b16, e1, e2, e3, hflx, List.length_map, RR, seval]
      refine any_branch hd (by kernel_rfl : Region.ready .any _ _ = [1, 11]) (by simp) ⟨?_, ?_, trivial⟩
      · simp only [emitF, markOf, EM, nb6_b3, nb3_b6, nb16_b3, nb3_b16, nb16_b6, nb6_b16, e1, e2, e3, hflx, List.length_map, RR, seval]
        refine awpC_pure' (hprep) ?_
        simp only [emitF, markOf, EM, nb6_b3, nb3_b6, nb16_b3, nb3_b16, nb16_b6, nb6_b16, e1, e2, e3, hflx, List.length_map, RR, seval]
        refine any_plan [(9, 3)] hd (m := 3) rfl (by kernel_rfl) rfl rfl ?_
        simp only [emitF, markOf, EM, nb6_b3, nb3_b6, nb16_b3, nb3_b16, nb16_b6, nb6_b16, e1, e2, e3, hflx, List.length_map, RR, seval]
        refine any_branch hd (by kernel_rfl : Region.ready .any _ _ = [10, 11]) (by simp) ⟨?_, ?_, trivial⟩
        · simp only [emitF, markOf, EM, nb6_b3, nb3_b6, nb16_b3, nb3_b16, nb16_b6, nb6_b16, e1, e2, e3, hflx, List.length_map, RR, seval]
          refine awpN_intro fun b21 hn21 => ?_
          have nb21_b3 : b21 ≠ b3 := fun e => by rw [e] at hn21; simp only [nb6_b3, nb3_b6, nb16_b3, nb3_b16, RR, seval, reduceCtorEq] at hn21
          have nb3_b21 : b3 ≠ b21 := fun e => nb21_b3 e.symm
          have nb21_b6 : b21 ≠ b6 := fun e => by rw [e] at hn21; simp only [nb6_b3, nb3_b6, nb16_b6, nb6_b16, RR, seval, reduceCtorEq] at hn21
          have nb6_b21 : b6 ≠ b21 := fun e => nb21_b6 e.symm
          have nb21_b16 : b21 ≠ b16 := fun e => by rw [e] at hn21; simp only [nb16_b3, nb3_b16, nb16_b6, nb6_b16, RR, seval, reduceCtorEq] at hn21
          have nb16_b21 : b16 ≠ b21 := fun e => nb21_b16 e.symm
          simp only [emitF, markOf, EM, nb6_b3, nb3_b6, nb16_b3, nb3_b16, nb16_b6, nb6_b16, nb21_b3, nb3_b21, nb21_b6, nb6_b21, nb21_b16, nb16_b21, e1, e2, e3, hflx, List.length_map, RR, seval]
          refine any_plan [(11, 1), (12, 1)] hd (m := 0) rfl (by kernel_rfl) rfl rfl ?_
          simp only [emitF, markOf, EM, nb6_b3, nb3_b6, nb16_b3, nb3_b16, nb16_b6, nb6_b16, nb21_b3, nb3_b21, nb21_b6, nb6_b21, nb21_b16, nb16_b21, e1, e2, e3, hflx, List.length_map, RR, seval]
          refine awpN_intro fun b7 hn7 => ?_
          have nb7_b3 : b7 ≠ b3 := fun e => by rw [e] at hn7; simp only [nb6_b3, nb3_b6, nb16_b3, nb3_b16, nb21_b3, nb3_b21, RR, seval, reduceCtorEq] at hn7
          have nb3_b7 : b3 ≠ b7 := fun e => nb7_b3 e.symm
          have nb7_b6 : b7 ≠ b6 := fun e => by rw [e] at hn7; simp only [nb6_b3, nb3_b6, nb16_b6, nb6_b16, nb21_b6, nb6_b21, RR, seval, reduceCtorEq] at hn7
          have nb6_b7 : b6 ≠ b7 := fun e => nb7_b6 e.symm
          have nb7_b16 : b7 ≠ b16 := fun e => by rw [e] at hn7; simp only [nb16_b3, nb3_b16, nb16_b6, nb6_b16, nb21_b16, nb16_b21, RR, seval, reduceCtorEq] at hn7
          have nb16_b7 : b16 ≠ b7 := fun e => nb7_b16 e.symm
          have nb7_b21 : b7 ≠ b21 := fun e => by rw [e] at hn7; simp only [nb21_b3, nb3_b21, nb21_b6, nb6_b21, nb21_b16, nb16_b21, RR, seval, reduceCtorEq] at hn7
          have nb21_b7 : b21 ≠ b7 := fun e => nb7_b21 e.symm
          simp only [emitF, markOf, EM, nb6_b3, nb3_b6, nb16_b3, nb3_b16, nb16_b6, nb6_b16, nb21_b3, nb3_b21, nb21_b6, nb6_b21, nb21_b16, nb16_b21, nb7_b3, nb3_b7, nb7_b6, nb6_b7, nb7_b16, nb16_b7, nb7_b21, nb21_b7, e1, e2, e3, hflx, List.length_map, RR, seval]
          refine any_done (by kernel_rfl) ?_
          simp only [nb6_b3, nb3_b6, nb16_b3, nb3_b16, nb16_b6, nb6_b16, nb21_b3, nb3_b21, nb21_b6, nb6_b21, nb21_b16, nb16_b21, nb7_b3, nb3_b7, nb7_b6, nb6_b7, nb7_b16, nb16_b7, nb7_b21, nb21_b7, e1, e2, e3, hflx, List.length_map, RR, seval]
          refine hKR1 _ _ ⟨b7, b16, b21, rfl, rfl, rfl, ?_, ?_, ?_, ?_, ?_, nb7_b16, nb3_b6⟩ <;> first | rfl | (simp only [nb6_b3, nb3_b6, nb16_b3, nb3_b16, nb16_b6, nb6_b16, nb21_b3, nb3_b21, nb21_b6, nb6_b21, nb21_b16, nb16_b21, nb7_b3, nb3_b7, nb7_b6, nb6_b7, nb7_b16, nb16_b7, nb7_b21, nb21_b7, e1, e2, e3, hflx, List.length_map, upd_app, RR, seval]; done) | (simp only [nb6_b3, nb3_b6, nb16_b3, nb3_b16, nb16_b6, nb6_b16, nb21_b3, nb3_b21, nb21_b6, nb6_b21, nb21_b16, nb16_b21, nb7_b3, nb3_b7, nb7_b6, nb6_b7, nb7_b16, nb16_b7, nb7_b21, nb21_b7, e1, e2, e3, hflx, List.length_map, upd_app, RR, seval]; rfl)
        · simp only [emitF, markOf, EM, nb6_b3, nb3_b6, nb16_b3, nb3_b16, nb16_b6, nb6_b16, e1, e2, e3, hflx, List.length_map, RR, seval]
          refine awpN_intro fun b7 hn7 => ?_
          have nb7_b3 : b7 ≠ b3 := fun e => by rw [e] at hn7; simp only [nb6_b3, nb3_b6, nb16_b3, nb3_b16, RR, seval, reduceCtorEq] at hn7
          have nb3_b7 : b3 ≠ b7 := fun e => nb7_b3 e.symm
          have nb7_b6 : b7 ≠ b6 := fun e => by rw [e] at hn7; simp only [nb6_b3, nb3_b6, nb16_b6, nb6_b16, RR, seval, reduceCtorEq] at hn7
          have nb6_b7 : b6 ≠ b7 := fun e => nb7_b6 e.symm
          have nb7_b16 : b7 ≠ b16 := fun e => by rw [e] at hn7; simp only [nb16_b3, nb3_b16, nb16_b6, nb6_b16, RR, seval, reduceCtorEq] at hn7
          have nb16_b7 : b16 ≠ b7 := fun e => nb7_b16 e.symm
          simp only [emitF, markOf, EM, nb6_b3, nb3_b6, nb16_b3, nb3_b16, nb16_b6, nb6_b16, nb7_b3, nb3_b7, nb7_b6, nb6_b7, nb7_b16, nb16_b7, e1, e2, e3, hflx, List.length_map, RR, seval]
          refine any_plan [(10, 1), (12, 1)] hd (m := 0) rfl (by kernel_rfl) rfl rfl ?_
          simp only [emitF, markOf, EM, nb6_b3, nb3_b6, nb16_b3, nb3_b16, nb16_b6, nb6_b16, nb7_b3, nb3_b7, nb7_b6, nb6_b7, nb7_b16, nb16_b7, e1, e2, e3, hflx, List.length_map, RR, seval]
          refine awpN_intro fun b21 hn21 => ?_
          have nb21_b3 : b21 ≠ b3 := fun e => by rw [e] at hn21; simp only [nb6_b3, nb3_b6, nb16_b3, nb3_b16, nb7_b3, nb3_b7, RR, seval, reduceCtorEq] at hn21
          have nb3_b21 : b3 ≠ b21 := fun e => nb21_b3 e.symm
          have nb21_b6 : b21 ≠ b6 := fun e => by rw [e] at hn21; simp only [nb6_b3, nb3_b6, nb16_b6, nb6_b16, nb7_b6, nb6_b7, RR, seval, reduceCtorEq] at hn21
          have nb6_b21 : b6 ≠ b21 := fun e => nb21_b6 e.symm
          have nb21_b16 : b21 ≠ b16 := fun e => by rw [e] at hn21; simp only [nb16_b3, nb3_b16, nb16_b6, nb6_b16, nb7_b16, nb16_b7, RR, seval, reduceCtorEq] at hn21
          have nb16_b21 : b16 ≠ b21 := fun e => nb21_b16 e.symm
          have nb21_b7 : b21 ≠ b7 := fun e => by rw [e] at hn21; simp only [nb7_b3, nb3_b7, nb7_b6, nb6_b7, nb7_b16, nb16_b7, RR, seval, reduceCtorEq] at hn21
          have nb7_b21 : b7 ≠ b21 := fun e => nb21_b7 e.symm
          simp only [emitF, markOf, EM, nb6_b3, nb3_b6, nb16_b3, nb3_b16, nb16_b6, nb6_b16, nb7_b3, nb3_b7, nb7_b6, nb6_b7, nb7_b16, nb16_b7, nb21_b3, nb3_b21, nb21_b6, nb6_b21, nb21_b16, nb16_b21, nb21_b7, nb7_b21, e1, e2, e3, hflx, List.length_map, RR, seval]
          refine any_done (by kernel_rfl) ?_
          simp only [nb6_b3, nb3_b6, nb16_b3, nb3_b16, nb16_b6, nb6_b16, nb7_b3, nb3_b7, nb7_b6, nb6_b7, nb7_b16, nb16_b7, nb21_b3, nb3_b21, nb21_b6, nb6_b21, nb21_b16, nb16_b21, nb21_b7, nb7_b21, e1, e2, e3, hflx, List.length_map, RR, seval]
          refine hKR1 _ _ ⟨b7, b16, b21, rfl, rfl, rfl, ?_, ?_, ?_, ?_, ?_, nb7_b16, nb3_b6⟩ <;> first | rfl | (simp only [nb6_b3, nb3_b6, nb16_b3, nb3_b16, nb16_b6, nb6_b16, nb7_b3, nb3_b7, nb7_b6, nb6_b7, nb7_b16, nb16_b7, nb21_b3, nb3_b21, nb21_b6, nb6_b21, nb21_b16, nb16_b21, nb21_b7, nb7_b21, e1, e2, e3, hflx, List.length_map, upd_app, RR, seval]; done) | (simp only [nb6_b3, nb3_b6, nb16_b3, nb3_b16, nb16_b6, nb6_b16, nb7_b3, nb3_b7, nb7_b6, nb6_b7, nb7_b16, nb16_b7, nb21_b3, nb3_b21, nb21_b6, nb6_b21, nb21_b16, nb16_b21, nb21_b7, nb7_b21, e1, e2, e3, hflx, List.length_map, upd_app, RR, seval]; rfl)
      · simp only [emitF, markOf, EM, nb6_b3, nb3_b6, nb16_b3, nb3_b16, nb16_b6, nb6_b16, e1, e2, e3, hflx, List.length_map, RR, seval]
        refine awpN_intro fun b7 hn7 => ?_
        have nb7_b3 : b7 ≠ b3 := fun e => by rw [e] at hn7; simp only [nb6_b3, nb3_b6, nb16_b3, nb3_b16, RR, seval, reduceCtorEq] at hn7
        have nb3_b7 : b3 ≠ b7 := fun e => nb7_b3 e.symm
        have nb7_b6 : b7 ≠ b6 := fun e => by rw [e] at hn7; simp only [nb6_b3, nb3_b6, nb16_b6, nb6_b16, RR, seval, reduceCtorEq] at hn7
        have nb6_b7 : b6 ≠ b7 := fun e => nb7_b6 e.symm
        have nb7_b16 : b7 ≠ b16 := fun e => by rw [e] at hn7; simp only [nb16_b3, nb3_b16, nb16_b6, nb6_b16, RR, seval, reduceCtorEq] at hn7
        have nb16_b7 : b16 ≠ b7 := fun e => nb7_b16 e.symm
        simp only [emitF, markOf, EM, nb6_b3, nb3_b6, nb16_b3, nb3_b16, nb16_b6, nb6_b16, nb7_b3, nb3_b7, nb7_b6, nb6_b7, nb7_b16, nb16_b7, e1, e2, e3, hflx, List.length_map, RR, seval]
        refine any_plan [(1, 1), (9, 3), (10, 1), (12, 1)] hd (m := 0) rfl (by kernel_rfl) rfl rfl ?_
        simp only [emitF, markOf, EM, nb6_b3, nb3_b6, nb16_b3, nb3_b16, nb16_b6, nb6_b16, nb7_b3, nb3_b7, nb7_b6, nb6_b7, nb7_b16, nb16_b7, e1, e2, e3, hflx, List.length_map, RR, seval]
        refine awpC_pure' (hprep) ?_
        simp only [emitF, markOf, EM, nb6_b3, nb3_b6, nb16_b3, nb3_b16, nb16_b6, nb6_b16, nb7_b3, nb3_b7, nb7_b6, nb6_b7, nb7_b16, nb16_b7, e1, e2, e3, hflx, List.length_map, RR, seval]
        refine awpN_intro fun b21 hn21 => ?_
        have nb21_b3 : b21 ≠ b3 := fun e => by rw [e] at hn21; simp only [nb6_b3, nb3_b6, nb16_b3, nb3_b16, nb7_b3, nb3_b7, RR, seval, reduceCtorEq] at hn21
        have nb3_b21 : b3 ≠ b21 := fun e => nb21_b3 e.symm
        have nb21_b6 : b21 ≠ b6 := fun e => by rw [e] at hn21; simp only [nb6_b3, nb3_b6, nb16_b6, nb6_b16, nb7_b6, nb6_b7, RR, seval, reduceCtorEq] at hn21
        have nb6_b21 : b6 ≠ b21 := fun e => nb21_b6 e.symm
        have nb21_b16 : b21 ≠ b16 := fun e => by rw [e] at hn21; simp only [nb16_b3, nb3_b16, nb16_b6, nb6_b16, nb7_b16, nb16_b7, RR, seval, reduceCtorEq] at hn21
        have nb16_b21 : b16 ≠ b21 := fun e => nb21_b16 e.symm
        have nb21_b7 : b21 ≠ b7 := fun e => by rw [e] at hn21; simp only [nb7_b3, nb3_b7, nb7_b6, nb6_b7, nb7_b16, nb16_b7, RR, seval, reduceCtorEq] at hn21
        have nb7_b21 : b7 ≠ b21 := fun e => nb21_b7 e.symm
        simp only [emitF, markOf, EM, nb6_b3, nb3_b6, nb16_b3, nb3_b16, nb16_b6, nb6_b16, nb7_b3, nb3_b7, nb7_b6, nb6_b7, nb7_b16, nb16_b7, nb21_b3, nb3_b21, nb21_b6, nb6_b21, nb21_b16, nb16_b21, nb21_b7, nb7_b21, e1, e2, e3, hflx, List.length_map, RR, seval]
        refine any_done (by kernel_rfl) ?_
        simp only [nb6_b3, nb3_b6, nb16_b3, nb3_b16, nb16_b6, nb6_b16, nb7_b3, nb3_b7, nb7_b6, nb6_b7, nb7_b16, nb16_b7, nb21_b3, nb3_b21, nb21_b6, nb6_b21, nb21_b16, nb16_b21, nb21_b7, nb7_b21, e1, e2, e3, hflx, List.length_map, RR, seval]
        refine hKR1 _ _ ⟨b7, b16, b21, rfl, rfl, rfl, ?_, ?_, ?_, ?_, ?_, nb7_b16, nb3_b6⟩ <;> first | rfl | (simp only [nb6_b3, nb3_b6, nb16_b3, nb3_b16, nb16_b6, nb6_b16, nb7_b3, nb3_b7, nb7_b6, nb6_b7, nb7_b16, nb16_b7, nb21_b3, nb3_b21, nb21_b6, nb6_b21, nb21_b16, nb16_b21, nb21_b7, nb7_b21, e1, e2, e3, hflx, List.length_map, upd_app, RR, seval]; done) | (simp only [nb6_b3, nb3_b6, nb16_b3, nb3_b16, nb16_b6, nb6_b16, nb7_b3, nb3_b7, nb7_b6, nb6_b7, nb7_b16, nb16_b7, nb21_b3, nb3_b21, nb21_b6, nb6_b21, nb21_b16, nb16_b21, nb21_b7, nb7_b21, e1, e2, e3, hflx, List.length_map, upd_app, RR, seval]; rfl)
    · simp only [emitF, markOf, EM, nb6_b3, nb3_b6, e1, e2, e3, hflx, List.length_map, RR, seval]
      refine awpN_intro fun b7 hn7 => ?_
      have nb7_b3 : b7 ≠ b3 := fun e => by rw [e] at hn7; simp only [nb6_b3, nb3_b6, RR, seval, reduceCtorEq] at hn7
      have nb3_b7 : b3 ≠ b7 := fun e => nb7_b3 e.symm
      have nb7_b6 : b7 ≠ b6 := fun e => by rw [e] at hn7; simp only [nb6_b3, nb3_b6, RR, seval, reduceCtorEq] at hn7
      have nb6_b7 : b6 ≠ b7 := fun e => nb7_b6 e.symm
      simp only [emitF, markOf, EM, nb6_b3, nb3_b6, nb7_b3, nb3_b7, nb7_b6, nb6_b7, e1, e2, e3, hflx, List.length_map, RR, seval]
      refine any_branch hd (by kernel_rfl : Region.ready .any _ _ = [1, 5]) (by simp) ⟨?_, ?_, trivial⟩
      · simp only [emitF, markOf, EM, nb6_b3, nb3_b6, nb7_b3, nb3_b7, nb7_b6, nb6_b7, e1, e2, e3, hflx, List.length_map, RR, seval]
        refine awpC_pure' (hprep) ?_
        simp only [emitF, markOf, EM, nb6_b3, nb3_b6, nb7_b3, nb3_b7, nb7_b6, nb6_b7, e1, e2, e3, hflx, List.length_map, RR, seval]
        refine any_plan [(5, 1), (9, 3), (10, 1), (12, 1)] hd (m := 0) rfl (by kernel_rfl) rfl rfl ?_
        simp only [emitF, markOf, EM, nb6_b3, nb3_b6, nb7_b3, nb3_b7, nb7_b6, nb6_b7, e1, e2, e3, hflx, List.length_map, RR, seval]
        refine awpN_intro fun b16 hn16 => ?_
        have nb16_b3 : b16 ≠ b3 := fun e => by rw [e] at hn16; simp only [nb6_b3, nb3_b6, nb7_b3, nb3_b7, RR, seval, reduceCtorEq] at hn16
        have nb3_b16 : b3 ≠ b16 := fun e => nb16_b3 e.symm
        have nb16_b6 : b16 ≠ b6 := fun e => by rw [e] at hn16; simp only [nb6_b3, nb3_b6, nb7_b6, nb6_b7, RR, seval, reduceCtorEq] at hn16
        have nb6_b16 : b6 ≠ b16 := fun e => nb16_b6 e.symm
        have nb16_b7 : b16 ≠ b7 := fun e => by rw [e] at hn16; simp only [nb7_b3, nb3_b7, nb7_b6, nb6_b7, RR, seval, reduceCtorEq] at hn16
        have nb7_b16 : b7 ≠ b16 := fun e => nb16_b7 e.symm
        simp only [emitF, markOf, EM, nb6_b3, nb3_b6, nb7_b3, nb3_b7, nb7_b6, nb6_b7, nb16_b3, nb3_b16, nb16_b6, nb6_b16, nb16_b7, nb7_b16, e1, e2, e3, hflx, List.length_map, RR, seval]
        refine awpN_intro fun b21 hn21 => ?_
        have nb21_b3 : b21 ≠ b3 := fun e => by rw [e] at hn21; simp only [nb6_b3, nb3_b6, nb7_b3, nb3_b7, nb16_b3, nb3_b16, RR, seval, reduceCtorEq] at hn21
        have nb3_b21 : b3 ≠ b21 := fun e => nb21_b3 e.symm
        have nb21_b6 : b21 ≠ b6 := fun e => by rw [e] at hn21; simp only [nb6_b3, nb3_b6, nb7_b6, nb6_b7, nb16_b6, nb6_b16, RR, seval, reduceCtorEq] at hn21
        have nb6_b21 : b6 ≠ b21 := fun e => nb21_b6 e.symm
        have nb21_b7 : b21 ≠ b7 := fun e => by rw [e] at hn21; simp only [nb7_b3, nb3_b7, nb7_b6, nb6_b7, nb16_b7, nb7_b16, RR, seval, reduceCtorEq] at hn21
        have nb7_b21 : b7 ≠ b21 := fun e => nb21_b7 e.symm
        have nb21_b16 : b21 ≠ b16 := fun e => by rw [e] at hn21; simp only [nb16_b3, nb3_b16, nb16_b6, nb6_b16, nb16_b7, nb7_b16, RR, seval, reduceCtorEq] at hn21
        have nb16_b21 : b16 ≠ b21 := fun e => nb21_b16 e.symm
        simp only [emitF, markOf, EM, nb6_b3, nb3_b6, nb7_b3, nb3_b7, nb7_b6, nb6_b7, nb16_b3, nb3_b16, nb16_b6, nb6_b16, nb16_b7, nb7_b16, nb21_b3, nb3_b21, nb21_b6, nb6_b21, nb21_b7, nb7_b21, nb21_b16, nb16_b21, e1, e2, e3, hflx, List.length_map, RR, seval]
        refine any_done (by kernel_rfl) ?_
        simp only [nb6_b3, nb3_b6, nb7_b3, nb3_b7, nb7_b6, nb6_b7, nb16_b3, nb3_b16, nb16_b6, nb6_b16, nb16_b7, nb7_b16, nb21_b3, nb3_b21, nb21_b6, nb6_b21, nb21_b7, nb7_b21, nb21_b16, nb16_b21, e1, e2, e3, hflx, List.length_map, RR, seval]
        refine hKR1 _ _ ⟨b7, b16, b21, rfl, rfl, rfl, ?_, ?_, ?_, ?_, ?_, nb7_b16, nb3_b6⟩ <;> first | rfl | (simp only [nb6_b3, nb3_b6, nb7_b3, nb3_b7, nb7_b6, nb6_b7, nb16_b3, nb3_b16, nb16_b6, nb6_b16, nb16_b7, nb7_b16, nb21_b3, nb3_b21, nb21_b6, nb6_b21, nb21_b7, nb7_b21, nb21_b16, nb16_b21, e1, e2, e3, hflx, List.length_map, upd_app, RR, seval]; done) | (simp only [nb6_b3, nb3_b6, nb7_b3, nb3_b7, nb7_b6, nb6_b7, nb16_b3, nb3_b16, nb16_b6, nb6_b16, nb16_b7, nb7_b16, nb21_b3, nb3_b21, nb21_b6, nb6_b21, nb21_b7, nb7_b21, nb21_b16, nb16_b21, e1, e2, e3, hflx, List.length_map, upd_app, RR, seval]; rfl)
      · simp only [emitF, markOf, EM, nb6_b3, nb3_b6, nb7_b3, nb3_b7, nb7_b6, nb6_b7, e1, e2, e3, hflx, List.length_map, RR, seval]
        refine awpN_intro fun b16 hn16 => ?_
        have nb16_b3 : b16 ≠ b3 := fun e => by rw [e] at hn16; simp only [nb6_b3, nb3_b6, nb7_b3, nb3_b7, RR, seval, reduceCtorEq] at hn16
        have nb3_b16 : b3 ≠ b16 := fun e => nb16_b3 e.symm
        have nb16_b6 : b16 ≠ b6 := fun e => by rw [e] at hn16; simp only [nb6_b3, nb3_b6, nb7_b6, nb6_b7, RR, seval, reduceCtorEq] at hn16
        have nb6_b16 : b6 ≠ b16 := fun e => nb16_b6 e.symm
        have nb16_b7 : b16 ≠ b7 := fun e => by rw [e] at hn16; simp only [nb7_b3, nb3_b7, nb7_b6, nb6_b7, RR, seval, reduceCtorEq] at hn16
        have nb7_b16 : b7 ≠ b16 := fun e => nb16_b7 e.symm
        simp only [emitF, markOf, EM, nb6_b3, nb3_b6, nb7_b3, nb3_b7, nb7_b6, nb6_b7, nb16_b3, nb3_b16, nb16_b6, nb6_b16, nb16_b7, nb7_b16, e1, e2, e3, hflx, List.length_map, RR, seval]
        refine any_plan [(1, 1), (9, 3), (10, 1), (12, 1)] hd (m := 0) rfl (by kernel_rfl) rfl rfl ?_
        simp only [emitF, markOf, EM, nb6_b3, nb3_b6, nb7_b3, nb3_b7, nb7_b6, nb6_b7, nb16_b3, nb3_b16, nb16_b6, nb6_b16, nb16_b7, nb7_b16, e1, e2, e3, hflx, List.length_map, RR, seval]
        refine awpC_pure' (hprep) ?_
        simp only [emitF, markOf, EM, nb6_b3, nb3_b6, nb7_b3, nb3_b7, nb7_b6, nb6_b7, nb16_b3, nb3_b16, nb16_b6, nb6_b16, nb16_b7, nb7_b16, e1, e2, e3, hflx, List.length_map, RR, seval]
        refine awpN_intro fun b21 hn21 => ?_
        have nb21_b3 : b21 ≠ b3 := fun e => by rw [e] at hn21; simp only [nb6_b3, nb3_b6, nb7_b3, nb3_b7, nb16_b3, nb3_b16, RR, seval, reduceCtorEq] at hn21
        have nb3_b21 : b3 ≠ b21 := fun e => nb21_b3 e.symm
        have nb21_b6 : b21 ≠ b6 := fun e => by rw [e] at hn21; simp only [nb6_b3, nb3_b6, nb7_b6, nb6_b7, nb16_b6, nb6_b16, RR, seval, reduceCtorEq] at hn21
        have nb6_b21 : b6 ≠ b21 := fun e => nb21_b6 e.symm
        have nb21_b7 : b21 ≠ b7 := fun e => by rw [e] at hn21; simp only [nb7_b3, nb3_b7, nb7_b6, nb6_b7, nb16_b7, nb7_b16, RR, seval, reduceCtorEq] at hn21
        have nb7_b21 : b7 ≠ b21 := fun e => nb21_b7 e.symm
        have nb21_b16 : b21 ≠ b16 := fun e => by rw [e] at hn21; simp only [nb16_b3, nb3_b16, nb16_b6, nb6_b16, nb16_b7, nb7_b16, RR, seval, reduceCtorEq] at hn21
        have nb16_b21 : b16 ≠ b21 := fun e => nb21_b16 e.symm
        simp only [emitF, markOf, EM, nb6_b3, nb3_b6, nb7_b3, nb3_b7, nb7_b6, nb6_b7, nb16_b3, nb3_b16, nb16_b6, nb6_b16, nb16_b7, nb7_b16, nb21_b3, nb3_b21, nb21_b6, nb6_b21, nb21_b7, nb7_b21, nb21_b16, nb16_b21, e1, e2, e3, hflx, List.length_map, RR, seval]
        refine any_done (by kernel_rfl) ?_
        simp only [nb6_b3, nb3_b6, nb7_b3, nb3_b7, nb7_b6, nb6_b7, nb16_b3, nb3_b16, nb16_b6, nb6_b16, nb16_b7, nb7_b16, nb21_b3, nb3_b21, nb21_b6, nb6_b21, nb21_b7, nb7_b21, nb21_b16, nb16_b21, e1, e2, e3, hflx, List.length_map, RR, seval]
        refine hKR1 _ _ ⟨b7, b16, b21, rfl, rfl, rfl, ?_, ?_, ?_, ?_, ?_, nb7_b16, nb3_b6⟩ <;> first | rfl | (simp only [nb6_b3, nb3_b6, nb7_b3, nb3_b7, nb7_b6, nb6_b7, nb16_b3, nb3_b16, nb16_b6, nb6_b16, nb16_b7, nb7_b16, nb21_b3, nb3_b21, nb21_b6, nb6_b21, nb21_b7, nb7_b21, nb21_b16, nb16_b21, e1, e2, e3, hflx, List.length_map, upd_app, RR, seval]; done) | (simp only [nb6_b3, nb3_b6, nb7_b3, nb3_b7, nb7_b6, nb6_b7, nb16_b3, nb3_b16, nb16_b6, nb6_b16, nb16_b7, nb7_b16, nb21_b3, nb3_b21, nb21_b6, nb6_b21, nb21_b7, nb7_b21, nb21_b16, nb16_b21, e1, e2, e3, hflx, List.length_map, upd_app, RR, seval]; rfl)
  rintro F1 M1 ⟨b7, b16, b21, f3, f6, f7, hb3, hb6, hb7, hb16, hb21, nb7_b16, nb3_b6⟩
  simp only [thenQ_normal]
  refine hK _ _ ?_; clear hK K
  have nb16_b7 : b16 ≠ b7 := fun e => nb7_b16 e.symm
  have nb6_b3 : b6 ≠ b3 := fun e => nb3_b6 e.symm
  have nb3_b7 : b3 ≠ b7 := fun e => by rw [e, hb7] at hb3; cases hb3
  have nb3_b16 : b3 ≠ b16 := fun e => by rw [e, hb16] at hb3; cases hb3
  have nb3_b21 : b3 ≠ b21 := fun e => by rw [e, hb21] at hb3; cases hb3
  have nb6_b7 : b6 ≠ b7 := fun e => by rw [e, hb7] at hb6; cases hb6
  have nb6_b16 : b6 ≠ b16 := fun e => by rw [e, hb16] at hb6; cases hb6
  have nb6_b21 : b6 ≠ b21 := fun e => by rw [e, hb21] at hb6; cases hb6
  have nb7_b3 : b7 ≠ b3 := fun e => by rw [e, hb3] at hb7; cases hb7
  have nb7_b6 : b7 ≠ b6 := fun e => by rw [e, hb6] at hb7; cases hb7
  have nb7_b21 : b7 ≠ b21 := fun e => by rw [e, hb21] at hb7; cases hb7
  have nb16_b3 : b16 ≠ b3 := fun e => by rw [e, hb3] at hb16; cases hb16
  have nb16_b6 : b16 ≠ b6 := fun e => by rw [e, hb6] at hb16; cases hb16
  have nb16_b21 : b16 ≠ b21 := fun e => by rw [e, hb21] at hb16; cases hb16
  have nb21_b3 : b21 ≠ b3 := fun e => by rw [e, hb3] at hb21; cases hb21
  have nb21_b6 : b21 ≠ b6 := fun e => by rw [e, hb6] at hb21; cases hb21
  have nb21_b7 : b21 ≠ b7 := fun e => by rw [e, hb7] at hb21; cases hb21
  have nb21_b16 : b21 ≠ b16 := fun e => by rw [e, hb16] at hb21; cases hb21
  refine awpX_seq ?_
  refine awp_seq_k fun K hK => ?_
  refine awp_region rfl ?_
  simp only [f3, hb3, hb6, hb7, hb16, hb21, nb3_b6, nb3_b7, nb3_b16, nb3_b21, nb6_b3, nb6_b7, nb6_b16, nb6_b21, nb7_b3, nb7_b6, nb7_b16, nb7_b21, nb16_b3, nb16_b6, nb16_b7, nb16_b21, nb21_b3, nb21_b6, nb21_b7, nb21_b16, e1, e2, e3, hflx, List.length_map, RR, seval]
  refine hK _ _ ?_; clear hK K
  refine awp_name fun F2 M2 hfr hH => ?_
  have g6 := hfr 6
  have g7 := hfr 7
  have g23 := hfr 23
  have g24 := hfr 24
  have g25 := hfr 25
  have gb3 := hH b3
  have gb6 := hH b6
  have gb7 := hH b7
  have gb16 := hH b16
  have gb21 := hH b21
  try simp only [f3, f6, f7, hb3, hb6, hb7, hb16, hb21, nb3_b6, nb3_b7, nb3_b16, nb3_b21, nb6_b3, nb6_b7, nb6_b16, nb6_b21, nb7_b3, nb7_b6, nb7_b16, nb7_b21, nb16_b3, nb16_b6, nb16_b7, nb16_b21, nb21_b3, nb21_b6, nb21_b7, nb21_b16, e1, e2, e3, hflx, List.length_map, RR, seval] at g6 g7 g23 g24 g25 gb3 gb6 gb7 gb16 gb21
  have f6 := g6; clear g6
  have f7 := g7; clear g7
  have f23 := g23; clear g23
  have f24 := g24; clear g24
  have f25 := g25; clear g25
  have hb3 := gb3; clear gb3
  have hb6 := gb6; clear gb6
  have hb7 := gb7; clear gb7
  have hb16 := gb16; clear gb16
  have hb21 := gb21; clear gb21
  clear hfr hH
  refine awp_block ?_
  refine awp_each [6, 7, 23, 24] (aa.length) (fun k fr M => fr 25 = .int .i64 (k : Nat) ∧ M b3 = M2 b3 ∧ M b6 = M2 b6 ∧ M b7 = M2 b7 ∧ M b16 = M2 b16 ∧ ∃ va bs, M b21 = some (.rows 8 [[.isl 2 FR, .osl 1 b16 vs.length, va, .str inp, .int .i64 0, .nsl, .int .i64 0, .int .i64 fl]]) ∧ ArrH b7 b16 bs ((aa.take k).map zz) va M) ⟨f25, rfl, rfl, rfl, rfl, .nsl, [], hb21, ⟨rfl, .inl ⟨rfl, rfl⟩, (fun i b l h => by simp at h), List.nodup_nil, (by simp), (by simp), (fun _ _ h => by cases h), (fun _ _ h => by cases h), (fun b hb => by simp at hb)⟩⟩ ?_
  rintro k F3 M3 hk0 ⟨fx, gb3, gb6, gb7, gb16, ⟨va, bs, hb21, hA⟩⟩ agx K0 hK0
  have f6 := (agx 6 rfl).trans f6
  have f7 := (agx 7 rfl).trans f7
  have f23 := (agx 23 rfl).trans f23
  have f24 := (agx 24 rfl).trans f24
  have f25 := fx; clear fx
  have hb3 := gb3.trans hb3
  have hb6 := gb6.trans hb6
  have hb7 := gb7.trans hb7
  have hb16 := gb16.trans hb16
  have ag0 := agree.refl [6, 7, 23, 24] F3
  have e0_b3 := gb3; clear gb3
  have e0_b6 := gb6; clear gb6
  have e0_b7 := gb7; clear gb7
  have e0_b16 := gb16; clear gb16
  clear agx
  refine awp_seq_k fun K hK => ?_
  refine awp_region rfl ?_
  simp only [f24, f25, e1, e2, e3, hflx, List.length_map, RR, seval]
  refine hK _ _ ?_; clear hK K
  refine awp_seq ?_
  refine awp_if _ rfl (fun hc => ?_) (fun hc => ?_)
  · have hlt0 : k < aa.length := by have := of_decide_eq_true hc; omega
    clear hc
    have hga := List.getElem?_eq_getElem hlt0
    have htk : aa.take (k + 1) = aa.take k ++ [aa[k]] := List.take_succ_eq_append_getElem hlt0
    have hsa := hsz _ (List.getElem_mem hlt0)
    have hlen : bs.length ≤ 10000 := by rw [hA.l, List.length_map, List.length_take]; omega
    generalize aa[k] = a at hga htk hsa
    have hg := getA hga
    have z0 := hsa.1
    have z1 : (4 : Int) * a.size ≤ 281474976710656 := by omega
    refine awp_skip ?_; try simp only [RR]
    refine awp_seq ?_
    refine awp_block ?_
    refine awp_seq_k fun K hK => ?_
    refine awp_region rfl ?_
    simp only [f23, f25, hb3, hb6, hb7, hb16, hb21, nb3_b6, nb3_b7, nb3_b16, nb3_b21, nb6_b3, nb6_b7, nb6_b16, nb6_b21, nb7_b3, nb7_b6, nb7_b16, nb7_b21, nb16_b3, nb16_b6, nb16_b7, nb16_b21, nb21_b3, nb21_b6, nb21_b7, nb21_b16, e1, e2, e3, hflx, List.length_map, hg, z0, z1, RR, seval]
    refine awpN_intro fun b9 hn9 => ?_
    have nb9_b3 : b9 ≠ b3 := fun e => by rw [e] at hn9; simp only [hb3, nb3_b6, nb3_b7, nb3_b16, nb3_b21, nb6_b3, nb7_b3, nb16_b3, nb21_b3, RR, seval, reduceCtorEq] at hn9
    have nb3_b9 : b3 ≠ b9 := fun e => nb9_b3 e.symm
    have nb9_b6 : b9 ≠ b6 := fun e => by rw [e] at hn9; simp only [hb6, nb3_b6, nb6_b3, nb6_b7, nb6_b16, nb6_b21, nb7_b6, nb16_b6, nb21_b6, RR, seval, reduceCtorEq] at hn9
    have nb6_b9 : b6 ≠ b9 := fun e => nb9_b6 e.symm
    have nb9_b7 : b9 ≠ b7 := fun e => by rw [e] at hn9; simp only [hb7, nb3_b7, nb6_b7, nb7_b3, nb7_b6, nb7_b16, nb7_b21, nb16_b7, nb21_b7, RR, seval, reduceCtorEq] at hn9
    have nb7_b9 : b7 ≠ b9 := fun e => nb9_b7 e.symm
    have nb9_b16 : b9 ≠ b16 := fun e => by rw [e] at hn9; simp only [hb16, nb3_b16, nb6_b16, nb7_b16, nb16_b3, nb16_b6, nb16_b7, nb16_b21, nb21_b16, RR, seval, reduceCtorEq] at hn9
    have nb16_b9 : b16 ≠ b9 := fun e => nb9_b16 e.symm
    have nb9_b21 : b9 ≠ b21 := fun e => by rw [e] at hn9; simp only [hb21, nb3_b21, nb6_b21, nb7_b21, nb16_b21, nb21_b3, nb21_b6, nb21_b7, nb21_b16, RR, seval, reduceCtorEq] at hn9
    have nb21_b9 : b21 ≠ b9 := fun e => nb9_b21 e.symm
    simp only [f23, f25, hb3, hb6, hb7, hb16, hb21, nb3_b6, nb3_b7, nb3_b16, nb3_b21, nb6_b3, nb6_b7, nb6_b16, nb6_b21, nb7_b3, nb7_b6, nb7_b16, nb7_b21, nb16_b3, nb16_b6, nb16_b7, nb16_b21, nb21_b3, nb21_b6, nb21_b7, nb21_b16, nb9_b3, nb3_b9, nb9_b6, nb6_b9, nb9_b7, nb7_b9, nb9_b16, nb16_b9, nb9_b21, nb21_b9, e1, e2, e3, hflx, List.length_map, hg, z0, z1, RR, seval]
    refine hK _ _ ?_; clear hK K
    refine awp_name fun F4 M4 hfr hH => ?_
    have g6 := hfr 6
    have g7 := hfr 7
    have g9 := hfr 9
    have g23 := hfr 23
    have g24 := hfr 24
    have g25 := hfr 25
    have gb3 := hH b3
    have gb6 := hH b6
    have gb7 := hH b7
    have gb16 := hH b16
    have gb21 := hH b21
    have gb9 := hH b9
    try simp only [f6, f7, f23, f24, f25, hb3, hb6, hb7, hb16, hb21, nb3_b6, nb3_b7, nb3_b16, nb3_b21, nb6_b3, nb6_b7, nb6_b16, nb6_b21, nb7_b3, nb7_b6, nb7_b16, nb7_b21, nb16_b3, nb16_b6, nb16_b7, nb16_b21, nb21_b3, nb21_b6, nb21_b7, nb21_b16, nb9_b3, nb3_b9, nb9_b6, nb6_b9, nb9_b7, nb7_b9, nb9_b16, nb16_b9, nb9_b21, nb21_b9, e1, e2, e3, hflx, List.length_map, hg, z0, z1, RR, seval] at g6 g7 g9 g23 g24 g25 gb3 gb6 gb7 gb16 gb21 gb9
    have ag0 : agree [6, 7, 23, 24] F3 F4 := agree.same hfr (by repeat (first | exact ag0 | refine agree.upd rfl ?_))
    have e0_b3 := (hH b3).trans (by first | exact e0_b3 | (simp only [nb3_b6, nb3_b7, nb3_b16, nb3_b21, nb6_b3, nb6_b7, nb6_b16, nb6_b21, nb7_b3, nb7_b6, nb7_b16, nb7_b21, nb16_b3, nb16_b6, nb16_b7, nb16_b21, nb21_b3, nb21_b6, nb21_b7, nb21_b16, nb9_b3, nb3_b9, nb9_b6, nb6_b9, nb9_b7, nb7_b9, nb9_b16, nb16_b9, nb9_b21, nb21_b9, upd_app, seval]; first | done | exact e0_b3))
    have e0_b6 := (hH b6).trans (by first | exact e0_b6 | (simp only [nb3_b6, nb3_b7, nb3_b16, nb3_b21, nb6_b3, nb6_b7, nb6_b16, nb6_b21, nb7_b3, nb7_b6, nb7_b16, nb7_b21, nb16_b3, nb16_b6, nb16_b7, nb16_b21, nb21_b3, nb21_b6, nb21_b7, nb21_b16, nb9_b3, nb3_b9, nb9_b6, nb6_b9, nb9_b7, nb7_b9, nb9_b16, nb16_b9, nb9_b21, nb21_b9, upd_app, seval]; first | done | exact e0_b6))
    have e0_b7 := (hH b7).trans (by first | exact e0_b7 | (simp only [nb3_b6, nb3_b7, nb3_b16, nb3_b21, nb6_b3, nb6_b7, nb6_b16, nb6_b21, nb7_b3, nb7_b6, nb7_b16, nb7_b21, nb16_b3, nb16_b6, nb16_b7, nb16_b21, nb21_b3, nb21_b6, nb21_b7, nb21_b16, nb9_b3, nb3_b9, nb9_b6, nb6_b9, nb9_b7, nb7_b9, nb9_b16, nb16_b9, nb9_b21, nb21_b9, upd_app, seval]; first | done | exact e0_b7))
    have e0_b16 := (hH b16).trans (by first | exact e0_b16 | (simp only [nb3_b6, nb3_b7, nb3_b16, nb3_b21, nb6_b3, nb6_b7, nb6_b16, nb6_b21, nb7_b3, nb7_b6, nb7_b16, nb7_b21, nb16_b3, nb16_b6, nb16_b7, nb16_b21, nb21_b3, nb21_b6, nb21_b7, nb21_b16, nb9_b3, nb3_b9, nb9_b6, nb6_b9, nb9_b7, nb7_b9, nb9_b16, nb16_b9, nb9_b21, nb21_b9, upd_app, seval]; first | done | exact e0_b16))
    have hA := hA.keep (H' := M4) (fun b o hb => by rw [hH]; have hne : b ≠ b9 := (fun e => by rw [e, hn9] at hb; cases hb); simp only [upd_ne _ _ hne]; exact hb)
    have f6 := g6; clear g6
    have f7 := g7; clear g7
    have f9 := g9; clear g9
    have f23 := g23; clear g23
    have f24 := g24; clear g24
    have f25 := g25; clear g25
    have hb3 := gb3; clear gb3
    have hb6 := gb6; clear gb6
    have hb7 := gb7; clear gb7
    have hb16 := gb16; clear gb16
    have hb21 := gb21; clear gb21
    have hb9 := gb9; clear gb9
    clear hfr hH
    have hown := hA.o
    have ho7 := hA.o7
    have ho16 := hA.ov
    refine awp_region_draw2 (fun x => x ≠ b7 ∧ x ≠ b9 ∧ x ≠ b21) [(0, 0), (1, 0), (2, 3), (3, 3), (4, 0), (5, 3), (6, 1), (7, 1), (8, 2), (9, 1), (10, 3), (11, 3)] [(12, 1)] draws (by kernel_rfl) rfl rfl ?_
    simp only [emitF, markOf, EM, f6, f7, f9, f23, f24, f25, hb3, hb6, hb7, hb16, hb21, hb9, nb3_b6, nb3_b7, nb3_b16, nb3_b21, nb6_b3, nb6_b7, nb6_b16, nb6_b21, nb7_b3, nb7_b6, nb7_b16, nb7_b21, nb16_b3, nb16_b6, nb16_b7, nb16_b21, nb21_b3, nb21_b6, nb21_b7, nb21_b16, nb9_b3, nb3_b9, nb9_b6, nb6_b9, nb9_b7, nb7_b9, nb9_b16, nb16_b9, nb9_b21, nb21_b9, e1, e2, e3, hflx, List.length_map, hg, z0, z1, RR, seval]
    refine awpN_intro fun b36 hn36 => ?_
    have n21 : b21 ≠ b36 := fun e => by rw [e, hn36] at hb21; cases hb21
    have n7 : b7 ≠ b36 := fun e => by rw [e, hn36] at hb7; cases hb7
    simp only [emitF, markOf, EM, f6, f7, f9, f23, f24, f25, hb3, hb6, hb7, hb16, hb21, hb9, nb3_b6, nb3_b7, nb3_b16, nb3_b21, nb6_b3, nb6_b7, nb6_b16, nb6_b21, nb7_b3, nb7_b6, nb7_b16, nb7_b21, nb16_b3, nb16_b6, nb16_b7, nb16_b21, nb21_b3, nb21_b6, nb21_b7, nb21_b16, nb9_b3, nb3_b9, nb9_b6, nb6_b9, nb9_b7, nb7_b9, nb9_b16, nb16_b9, nb9_b21, nb21_b9, e1, e2, e3, hflx, List.length_map, hg, z0, z1, RR, seval]
    have hzr : List.replicate a.size.toNat [AV.int .u32 0] = (zz a).map rowU := by simp [zz, rowU]
    have hzl : (zz a).length = a.size.toNat := by simp [zz]
    rw [hzr]
    refine awpA_ownF (hown.upd hn36 _) (by have := arrRows_len bs ((aa.take k).map zz) hA.l; rw [this, List.length_map, List.length_take]; simp only [List.length_cons, List.length_nil]; omega) (fun b e => ⟨fun c => ?_, fun c => ?_, fun c => ?_⟩) fun v' H' own' hk' hg' => ?_
    · subst c; exact ho7 _ _ e
    · subst c; exact hown.offsz hb9 (by decide) _ _ e
    · subst c; exact hown.offsz hb21 (by decide) _ _ e
    have hce := own'.cells
    have hoe := own'.one1
    have hb21' := hk' b21 _ (by rw [upd_ne _ _ n21]; exact hb21) (hown.offsz hb21 (by decide) _ _)
    have hb3' := hk' b3 _ (by rw [upd_ne _ _ (fun e => by rw [e, hn36] at hb3; cases hb3)]; exact hb3) (hown.offsz hb3 (by decide) _ _)
    have hb6' := hk' b6 _ (by rw [upd_ne _ _ (fun e => by rw [e, hn36] at hb6; cases hb6)]; exact hb6) (hown.offsz hb6 (by decide) _ _)
    have hb7' := hk' b7 _ (by rw [upd_ne _ _ n7]; exact hb7) (ho7 _ _)
    have hb16' := hk' b16 _ (by rw [upd_ne _ _ (fun e => by rw [e, hn36] at hb16; cases hb16)]; exact hb16) (ho16 _ _)
    have e0_b3 := (hb3'.trans hb3.symm).trans e0_b3
    have e0_b6 := (hb6'.trans hb6.symm).trans e0_b6
    have e0_b7 := (hb7'.trans hb7.symm).trans e0_b7
    have e0_b16 := (hb16'.trans hb16.symm).trans e0_b16
    rw [← hzl] at own'
    have hA' := hA.snoc (l := zz a) hn36 (by rw [hb7]; exact Option.some_ne_none _) (by rw [hb16]; exact Option.some_ne_none _) own' hk' hg' hb21' (.rows 8 [[.isl 2 FR, .osl 1 b16 vs.length, v', .str inp, .int .i64 0, .nsl, .int .i64 0, .int .i64 fl]])
    simp only [hce, hoe, Option.bind_some, List.drop, hb21', f6, f7, f9, f23, f24, f25, hb3, hb6, hb7, hb16, hb21, hb9, nb3_b6, nb3_b7, nb3_b16, nb3_b21, nb6_b3, nb6_b7, nb6_b16, nb6_b21, nb7_b3, nb7_b6, nb7_b16, nb7_b21, nb16_b3, nb16_b6, nb16_b7, nb16_b21, nb21_b3, nb21_b6, nb21_b7, nb21_b16, nb9_b3, nb3_b9, nb9_b6, nb6_b9, nb9_b7, nb7_b9, nb9_b16, nb16_b9, nb9_b21, nb21_b9, e1, e2, e3, hflx, List.length_map, hg, z0, z1, RR, seval]
    refine awp_region rfl ?_
    simp only [f25, e1, e2, e3, hflx, List.length_map, hg, z0, z1, RR, seval]
    try rw [IntWalk.i64_in _ (by omega)]
    refine hK0 _ _ hlt0 ⟨by first | rfl | (simp only [upd_app, seval]; rfl), (by first | exact e0_b3 | (simp only [nb3_b6, nb3_b7, nb3_b16, nb3_b21, nb6_b3, nb6_b7, nb6_b16, nb6_b21, nb7_b3, nb7_b6, nb7_b16, nb7_b21, nb16_b3, nb16_b6, nb16_b7, nb16_b21, nb21_b3, nb21_b6, nb21_b7, nb21_b16, nb9_b3, nb3_b9, nb9_b6, nb6_b9, nb9_b7, nb7_b9, nb9_b16, nb16_b9, nb9_b21, nb21_b9, upd_app, seval]; first | done | exact e0_b3)), (by first | exact e0_b6 | (simp only [nb3_b6, nb3_b7, nb3_b16, nb3_b21, nb6_b3, nb6_b7, nb6_b16, nb6_b21, nb7_b3, nb7_b6, nb7_b16, nb7_b21, nb16_b3, nb16_b6, nb16_b7, nb16_b21, nb21_b3, nb21_b6, nb21_b7, nb21_b16, nb9_b3, nb3_b9, nb9_b6, nb6_b9, nb9_b7, nb7_b9, nb9_b16, nb16_b9, nb9_b21, nb21_b9, upd_app, seval]; first | done | exact e0_b6)), (by first | exact e0_b7 | (simp only [nb3_b6, nb3_b7, nb3_b16, nb3_b21, nb6_b3, nb6_b7, nb6_b16, nb6_b21, nb7_b3, nb7_b6, nb7_b16, nb7_b21, nb16_b3, nb16_b6, nb16_b7, nb16_b21, nb21_b3, nb21_b6, nb21_b7, nb21_b16, nb9_b3, nb3_b9, nb9_b6, nb6_b9, nb9_b7, nb7_b9, nb9_b16, nb16_b9, nb9_b21, nb21_b9, upd_app, seval]; first | done | exact e0_b7)), (by first | exact e0_b16 | (simp only [nb3_b6, nb3_b7, nb3_b16, nb3_b21, nb6_b3, nb6_b7, nb6_b16, nb6_b21, nb7_b3, nb7_b6, nb7_b16, nb7_b21, nb16_b3, nb16_b6, nb16_b7, nb16_b21, nb21_b3, nb21_b6, nb21_b7, nb21_b16, nb9_b3, nb3_b9, nb9_b6, nb6_b9, nb9_b7, nb7_b9, nb9_b16, nb16_b9, nb9_b21, nb21_b9, upd_app, seval]; first | done | exact e0_b16)), v', bs ++ [b36], upd_same _ _ _, (by rw [htk, List.map_append]; exact hA')⟩ (by repeat (first | exact ag0 | refine agree.upd rfl ?_))
  · have hkn0 : k = aa.length := by have := of_decide_eq_false hc; omega
    clear hc
    rw [hkn0, List.take_length] at hA
    refine awp_exit ?_; simp only [RR, seval]
    refine awpX_defer (lo := 7) (caps := [.ptr 1 b7 0 0, .ptr 3 b6 0 0]) (Q := deferQ (DRun env 23 Bg [.ptr 1 b7 0 0, .ptr 3 b6 0 0] 5 [.cell 6 30] (frP b6) (fun ae H' => ae = .ret (resV e out t) ∧ H' = emp))) (by simp only [List.map_cons, List.map_nil, upd_app, f6, f7, RR, seval]) rfl (by decide) (by decide) (by decide) ?_ ?_
    rotate_left
    · intro γ γ' e' a' w' g1 g2 g3 g4 hpin hl
      refine leaves_of (Ng := 23) (fn := Try.f14) (gfn := Try.f33) rfl Try.func33 rfl rfl rfl rfl (by decide) rfl rfl g1 g2 g3 g4 (fun hh S w tt => ?_) hl
      show VRel S w (frP b6 tt) _
      unfold frP
      by_cases ht : tt = 6
      · subst ht
        rw [upd_same, hh.2 6 (by decide), hpin 6 3 b6 0 0 (by decide) (by decide) (by simp only [upd_app, f6, seval])]
        simp only [VRel]
      · rw [upd_ne _ _ ht]
        simp only [VRel]
    have h0 : M3 b21 = some (.rows 8 [[AV.isl 2 FR, .osl 1 b16 vs.length] ++ va :: [.str inp, .int .i64 0, .nsl, .int .i64 0, .int .i64 fl]]) := hb21
    refine awp_sealP hA.o h0 (fun x hx => ?_) (fun x hx => ?_) (hA.o.offsz hb21 (by decide)) fun FS HS hfr hb21 hkp => ?_
    · simp only [List.mem_cons, List.not_mem_nil, or_false] at hx
      rcases hx with rfl | rfl
      · exact noO_flat rfl
      · intro s b n' e'
        cases e'
        exact hA.ov
    · simp only [List.mem_cons, List.not_mem_nil, or_false] at hx
      rcases hx with rfl | rfl | rfl | rfl | rfl <;> exact noO_flat rfl
    have n6bs : b6 ∉ bs := fun hm => by obtain ⟨l, hl⟩ := hA.some hm; rw [hl] at hb6; cases hb6
    have f6 : FS 6 = .ptr 3 b6 0 0 := (hfr 6 (by simp only [upd_app, f6, seval]; exact noO_flat rfl)).trans (by simp only [upd_app, f6, seval])
    have f7 : FS 7 = .ptr 1 b7 0 0 := (hfr 7 (by simp only [upd_app, f7, seval]; exact noO_flat rfl)).trans (by simp only [upd_app, f7, seval])
    have hb7 := hkp b7 _ _ nb7_b21 hA.o7 (fun r hr x hx => by simp only [List.mem_singleton] at hr; subst hr; simp only [List.mem_singleton] at hx; subst hx; exact noO_flat rfl) hb7
    have hb6 := hkp b6 _ _ nb6_b21 (hA.o.offsz hb6 (by decide)) (fun r hr x hx => by simp only [List.mem_singleton] at hr; subst hr; simp only [List.mem_cons, List.not_mem_nil, or_false] at hx; rcases hx with rfl | rfl | rfl <;> exact noO_flat rfl) hb6
    have hb16 := hkp b16 _ _ nb16_b21 hA.ov (fun r hr x hx => by rw [(List.mem_replicate.1 hr).2] at hx; simp only [List.mem_singleton] at hx; subst hx; exact noO_flat rfl) hb16
    have hR : RunH cx b21 b16 bs ⟨List.replicate vs.length 0, aa.map zz, 0, [], 0⟩ .nsl HS := by
      refine ⟨by rw [hFRe, hci, ← hfl2]; simpa using hb21, by simpa [rowU] using hb16, hA.l, fun i b l h1 h2 => ?_, hA.nd, hA.nv, .inl ⟨rfl, rfl⟩, (fun _ _ h => by cases h), (fun b hb s n' h => by cases h), fun x hx => ?_, fun l hl => ?_, by simp, Nat.zero_le _, Nat.zero_le _⟩
      · have hbx := hA.a i b l h1 h2
        exact hkp b _ _ (fun e' => by rw [e', h0] at hbx; cases hbx) (hA.ob b (List.mem_of_getElem? h1)) (fun r hr x hx => by obtain ⟨y, _, rfl⟩ := List.mem_map.1 hr; simp only [rowU, List.mem_singleton] at hx; subst hx; exact noO_flat rfl) hbx
      · rw [(List.mem_replicate.1 hx).2]; simp [u32R]
      · obtain ⟨a, ha', rfl⟩ := List.mem_map.1 hl
        have := hsz a ha'
        refine ⟨by simp only [zz, List.length_replicate]; omega, fun x hx => ?_⟩
        rw [(List.mem_replicate.1 hx).2]; simp [u32R]
    have hO7 : OwnB b16 bs .nsl b7 [[.ptr 8 b21 0 0]] HS := ⟨hb7, nb7_b16, hA.n7, fun _ _ h => by cases h⟩
    clear hkp hfr h0
    refine awp_seq_k fun K hK => ?_
    refine awp_region_draw2 (fun x => x ≠ b6 ∧ x ≠ b7 ∧ x ≠ b21) [(0, 1), (1, 3), (2, 3), (3, 1), (4, 1), (5, 3), (6, 3), (7, 1), (8, 3), (9, 3), (10, 3), (11, 3)] [] draws (by kernel_rfl) rfl rfl ?_
    simp only [emitF, markOf, EM, f7, hb6, hb7, hb21, nb3_b6, nb3_b7, nb3_b16, nb3_b21, nb6_b3, nb6_b7, nb6_b16, nb6_b21, nb7_b3, nb7_b6, nb7_b16, nb7_b21, nb16_b3, nb16_b6, nb16_b7, nb16_b21, nb21_b3, nb21_b6, nb21_b7, nb21_b16, e1, e2, e3, hflx, List.length_map, hrowg, hFl, RR, seval]
    refine hK _ _ ?_; clear hK K
    refine awp_seq_k fun K hK => ?_
    refine awp_region_draw2 (fun x => x ≠ b7) [(0, 0), (1, 3), (2, 3), (3, 3), (4, 0), (5, 3), (6, 3), (7, 3), (8, 1), (9, 1), (10, 1)] [] draws (by kernel_rfl) rfl rfl ?_
    simp only [emitF, markOf, EM, f6, f7, f23, f24, f25, hb6, hb7, hb21, nb3_b6, nb3_b7, nb3_b16, nb3_b21, nb6_b3, nb6_b7, nb6_b16, nb6_b21, nb7_b3, nb7_b6, nb7_b16, nb7_b21, nb16_b3, nb16_b6, nb16_b7, nb16_b21, nb21_b3, nb21_b6, nb21_b7, nb21_b16, e1, e2, e3, hflx, List.length_map, hrowg, hFl, hrowg, hFl, RR, seval]
    refine awpN_intro fun b63 hn63 => ?_
    have hzw : List.replicate wn [AV.int .u32 0] = (List.replicate wn (0 : Int)).map rowU := by simp [rowU]
    rw [hzw]
    have n7 : b7 ≠ b63 := fun e' => by rw [e', hn63] at hb7; cases hb7
    have hR1 := (hR.new hn63 (some (.rows 1 ((List.replicate wn (0 : Int)).map rowU)))).own (hO7.new hn63 (some (.rows 1 ((List.replicate wn (0 : Int)).map rowU)))) none
    have hO1 := (hR.fresh hn63 ((List.replicate wn (0 : Int)).map rowU)).other (fun e' => n7 e'.symm) none
    have hL := (hC b21 b16 bs n).L rsg (List.replicate wn 0) g.body _ .nsl _ b63 o hgok hR1 hO1 (fun x hx => by rw [(List.mem_replicate.1 hx).2]; simp [u32R]) hev
    rw [List.length_replicate] at hL
    simp only [RR, seval]
    refine awpC_Sless (b7 := b7) hL (by rw [upd_ne _ _ n7]; exact hb7) (fun b hb => hb) ?_ ?_
    · intro e' s vo' H' he' hR' h7' ho7' hk'
      subst he'
      simp only [endR, Prod.mk.injEq] at hend
      obtain ⟨rfl, rfl, rfl⟩ := hend
      simp only [thenQ_pan, blockQ_pan]
      exact Run_dp b7 b6 H' _ _ hR' h7' ho7' (hk' b6 _ (by rw [upd_ne _ _ (fun e' => by rw [e', hn63] at hb6; cases hb6)]; exact hb6) nb6_b21 nb6_b16 n6bs (fun _ _ h => by cases h) (fun e' => by rw [e', hn63] at hb6; cases hb6)) ⟨rfl, rfl⟩
    intro p s vo' H' he' hR' h7' ho7' hk'
    subst he'
    simp only [endR, Prod.mk.injEq] at hend
    obtain ⟨rfl, rfl, rfl⟩ := hend
    have hb6' := hk' b6 _ (by rw [upd_ne _ _ (fun e' => by rw [e', hn63] at hb6; cases hb6)]; exact hb6) nb6_b21 nb6_b16 n6bs (fun _ _ h => by cases h) (fun e' => by rw [e', hn63] at hb6; cases hb6)
    simp only [RR, seval]
    refine hK _ _ ?_; clear hK K
    refine RunH.seal hR' fun FT HT hft hr2 hk2 => ?_
    have f6 : FT 6 = .ptr 3 b6 0 0 := (hft 6 (by simp only [upd_app, f6, seval]; rfl)).trans (by simp only [upd_app, f6, seval])
    have f7 : FT 7 = .ptr 1 b7 0 0 := (hft 7 (by simp only [upd_app, f7, seval]; rfl)).trans (by simp only [upd_app, f7, seval])
    have hb7 := hk2 b7 _ _ nb7_b21 ho7' (fun r hr x hx => by simp only [List.mem_singleton] at hr; subst hr; simp only [List.mem_singleton] at hx; subst hx; rfl) h7'
    have hb6 := hk2 b6 _ _ nb6_b21 (hR'.o.offsz hb6' (by decide)) (fun r hr x hx => by simp only [List.mem_singleton] at hr; subst hr; simp only [List.mem_cons, List.not_mem_nil, or_false] at hx; rcases hx with rfl | rfl | rfl <;> rfl) hb6'
    have hb21 := hr2
    have hbb := bytesL_B s.out
    clear hk2 hft hr2 hk'
    refine awp_seq_k fun K hK => ?_
    refine awp_region_draw2 (fun x => x ≠ b6 ∧ x ≠ b7 ∧ x ≠ b21) [(0, 1), (1, 3), (2, 3), (3, 1), (4, 3), (5, 1), (6, 3), (7, 3), (8, 1), (9, 3)] [(10, 1)] draws (by kernel_rfl) rfl rfl ?_
    simp only [emitF, markOf, EM, f6, f7, hb6, hb7, hb21, nb3_b6, nb3_b7, nb3_b16, nb3_b21, nb6_b3, nb6_b7, nb6_b16, nb6_b21, nb7_b3, nb7_b6, nb7_b16, nb7_b21, nb16_b3, nb16_b6, nb16_b7, nb16_b21, nb21_b3, nb21_b6, nb21_b7, nb21_b16, e1, e2, e3, hflx, List.length_map, hrowg, hFl, hbb, RR, seval]
    refine hK _ _ ?_; clear hK K
    refine awp_ret ?_
    exact Run_dn b7 b6 _ _ 1 s.out s.ticks (by first | exact upd_same _ _ _ | (simp only [upd_app, seval]; rfl)) ⟨rfl, rfl⟩
end Go.Proofs.Ytlokndnkpleegaa
