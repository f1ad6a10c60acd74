/- Chapter 19: how a core's run in the midst lies in memory. -/
import Derived.Test.YtnfbbjhdflhmjaaDoorCx
import Derived.Test.YtnfbbjhdflhmjaaDoorMb
set_option linter.unusedSimpArgs false
set_option linter.unusedVariables false
set_option maxRecDepth 10000
namespace Go.Al
structure eN (cx : Kx) (W br bw : Nat) (st : RS) (vo : AV) (H : Hp) : Prop where
 r : H br = some (.rows 7 [[.isl 5 (cx.funs.map CF.row), .osl 1 bw st.vars.length, .str cx.inp, .int .i64 st.read, vo, .int .i64 st.ticks, .int .i64 cx.fuel]])
 v : H bw = some (.rows 1 (st.vars.map fE))
 o : dW 1 vo (st.out.map nD) H
 ov : off vo bw
 uv : ∀ x ∈ st.vars, cJ x
 ub : st.out.length ≤ 65536
 rd : st.read ≤ cx.inp.length
 tk : st.ticks ≤ cx.fuel
 lw : st.vars.length = W
def bO (br bw : Nat) (vo vo' : AV) (H H' : Hp) : Prop := ∀ b o, H b = some o → b ≠ br → b ≠ bw → off vo b → H' b = some o ∧ off vo' b
theorem bO.refl (br bw : Nat) (vo : AV) (H : Hp) : bO br bw vo vo H H := fun _ _ h _ _ ho => ⟨h, ho⟩
theorem bO.trans {br bw : Nat} {vo vo1 vo2 : AV} {H H1 H2 : Hp} (h : bO br bw vo vo1 H H1) (h' : bO br bw vo1 vo2 H1 H2) : bO br bw vo vo2 H H2 := fun b o hb h1 h2 h4 => by
 obtain ⟨g1, g2⟩ := h b o hb h1 h2 h4
 exact h' b o g1 h1 h2 g2
theorem bO.new {br bw bo : Nat} {vo vo1 : AV} {H H1 : Hp} {o : Option eR} (hn : H bo = none) (h : bO br bw vo vo1 (upd H bo o) H1) : bO br bw vo vo1 H H1 := fun b o' hb h1 h2 h4 => by
 have : b ≠ bo := fun e => by rw [e, hn] at hb; cases hb
 exact h b o' (by rw [cG _ _ this]; exact hb) h1 h2 h4
theorem bO.updN {br bw b : Nat} {vo vo1 : AV} {H H1 : Hp} (h : bO br bw vo vo1 H H1) (hb : H b = none) (o : Option eR) : bO br bw vo vo1 H (upd H1 b o) := fun b' o' hb' h1 h2 h4 => by
 obtain ⟨g1, g2⟩ := h b' o' hb' h1 h2 h4
 have : b' ≠ b := fun e => by rw [e, hb] at hb'; cases hb'
 exact ⟨by rw [cG _ _ this]; exact g1, g2⟩
section
variable {cx : Kx} {W br bw : Nat} {st : RS} {vo : AV} {H : Hp}
theorem eN.nbr (h : eN cx W br bw st vo H) {b s : Nat} {l : List (List AV)} (hb : H b = some (.rows s l)) (hs : s ≠ 7) : b ≠ br := fun e => by rw [e, h.r] at hb; cases hb; exact hs rfl
theorem eN.bwr (h : eN cx W br bw st vo H) : bw ≠ br := h.nbr h.v (by decide)
theorem eN.new (h : eN cx W br bw st vo H) {b : Nat} (hb : H b = none) (o : Option eR) : eN cx W br bw st vo (upd H b o) := by
 have n1 : br ≠ b := fun e => by have := h.r; rw [e, hb] at this; cases this
 have n2 : bw ≠ b := fun e => by have := h.v; rw [e, hb] at this; cases this
 exact { h with r := by rw [cG _ _ n1]; exact h.r, v := by rw [cG _ _ n2]; exact h.v, o := h.o.upd hb o }
theorem eN.other (h : eN cx W br bw st vo H) {b : Nat} (h1 : b ≠ br) (h2 : b ≠ bw) (h3 : off vo b) (o : Option eR) : eN cx W br bw st vo (upd H b o) :=
 { h with r := by rw [cG _ _ (Ne.symm h1)]; exact h.r, v := by rw [cG _ _ (Ne.symm h2)]; exact h.v, o := h.o.off h3 o }
theorem eN.turn (h : eN cx W br bw st vo H) {st' : RS} (hv : st'.vars = st.vars) (ho : st'.out = st.out) (hrd : st'.read ≤ cx.inp.length) (htk : st'.ticks ≤ cx.fuel) :
  eN cx W br bw st' vo (upd H br (some (.rows 7 [[.isl 5 (cx.funs.map CF.row), .osl 1 bw st'.vars.length, .str cx.inp, .int .i64 st'.read, vo, .int .i64 st'.ticks, .int .i64 cx.fuel]]))) :=
 ⟨bR _ _ _, by rw [cG _ _ h.bwr, hv]; exact h.v, by rw [ho]; exact h.o.off (h.o.offsz h.r (by decide)) _, h.ov, by rw [hv]; exact h.uv, by rw [ho]; exact h.ub, hrd, htk, by rw [hv]; exact h.lw⟩
theorem bO.run (o : Option eR) : bO br bw vo vo H (upd H br o) := fun b' o' hb h1 _ h4 => ⟨by rw [cG _ _ h1]; exact hb, h4⟩
theorem bO.vars (o : Option eR) : bO br bw vo vo H (upd H bw o) := fun b' o' hb _ h2 h4 => ⟨by rw [cG _ _ h2]; exact hb, h4⟩
theorem eN.setAll (h : eN cx W br bw st vo H) {l : List Int} (hl : l.length = st.vars.length) (hu : ∀ x ∈ l, cJ x) : eN cx W br bw { st with vars := l } vo (upd H bw (some (.rows 1 (l.map fE)))) := by
 have n2 : br ≠ bw := Ne.symm h.bwr
 refine ⟨?_, bR _ _ _, h.o.off h.ov _, h.ov, hu, h.ub, h.rd, h.tk, hl.trans h.lw⟩
 rw [cG _ _ n2]
 show H br = some (.rows 7 [[_, .osl 1 bw l.length, _, _, _, _, _]])
 rw [hl]; exact h.r
theorem eN.setV (h : eN cx W br bw st vo H) (i : Nat) (v : Int) (hv : cJ v) : eN cx W br bw { st with vars := st.vars.set i v } vo (upd H bw (some (.rows 1 ((st.vars.map fE).set i [.int .u32 v])))) := by
 rw [pW]
 refine h.setAll (by simp) fun x hx => ?_
 rcases List.mem_or_eq_of_mem_set hx with hx | rfl
 ·exact h.uv x hx
 exact hv
theorem eN.sub {H' : Hp} (h : eN cx W br bw st vo H) (hk : ∀ b o, H b = some o → H' b = some o) : eN cx W br bw st vo H' := by
 have ho : dW 1 vo (st.out.map nD) H' := by
  rcases h.o with g | ⟨b, g1, g2⟩
  ·exact .inl g
  exact .inr ⟨b, g1, hk _ _ g2⟩
 exact { h with r := hk _ _ h.r, v := hk _ _ h.v, o := ho }
theorem eN.put {v' : AV} {H' : Hp} (h : eN cx W br bw st vo H) {c : UInt8} (hl : st.out.length < 65536) (ho : dW 1 v' (st.out.map nD ++ [nD c]) H')
  (hk : ∀ b o, H b = some o → vo ≠ .osl 1 b (st.out.map nD).length → H' b = some o) (hg : ∀ b, off vo b → H b ≠ none → off v' b) :
  eN cx W br bw { st with out := st.out ++ [c] } v' (upd H' br (some (.rows 7 [[.isl 5 (cx.funs.map CF.row), .osl 1 bw st.vars.length, .str cx.inp, .int .i64 st.read, v', .int .i64 st.ticks, .int .i64 cx.fuel]]))) ∧
  bO br bw vo v' H (upd H' br (some (.rows 7 [[.isl 5 (cx.funs.map CF.row), .osl 1 bw st.vars.length, .str cx.inp, .int .i64 st.read, v', .int .i64 st.ticks, .int .i64 cx.fuel]]))) := by
 have n2 := h.bwr
 have hob : off vo br := h.o.offsz h.r (by decide)
 have hob' : off v' br := hg br hob (by rw [h.r]; exact cB _)
 refine ⟨⟨bR _ _ _, ?_, ?_, hg bw h.ov (by rw [h.v]; exact cB _), h.uv, ?_, h.rd, h.tk, h.lw⟩, fun b o hb h1 h2 h4 => ⟨?_, hg b h4 (by rw [hb]; exact cB _)⟩⟩
 ·rw [cG _ _ n2]; exact hk _ _ h.v (h.ov _ _)
 ·rw [List.map_append]
  exact ho.off hob' _
 ·simp only [bU, List.length_singleton]; omega
 rw [cG _ _ h1]; exact hk _ _ hb (h4 _ _)
theorem Jj (vars vs : List Int) (a n : Nat) (h : a + n ≤ vars.length) (hp : vs.length ≤ n) (z : List AV) :
  (((vars.map fE).take a ++ List.replicate n [AV.int .u32 0] ++ (vars.map fE).drop (a + n)).take a ++ (((vs.map (AV.int .u32)) ++ z).take vs.length).map (fun x => [x]) ++ ((vars.map fE).take a ++ List.replicate n [AV.int .u32 0] ++ (vars.map fE).drop (a + n)).drop (a + vs.length)) =
  (vars.take a ++ (vs ++ List.replicate (n - vs.length) 0) ++ vars.drop (a + n)).map fE := by
 have e1 : ((vars.map fE).take a).length = a := by rw [cC, aD]; omega
 have e2 : ((vs.map (AV.int .u32)) ++ z).take vs.length = vs.map (AV.int .u32) := by rw [List.take_left' (by rw [aD])]
 have e3 : (vs.map (AV.int .u32)).map (fun x => [x]) = vs.map fE := by rw [List.map_map]; rfl
 rw [List.append_assoc ((vars.map fE).take a), List.take_left' e1, e2, e3]
 have e4 : ((vars.map fE).take a ++ (List.replicate n [AV.int .u32 0] ++ (vars.map fE).drop (a + n))).drop (a + vs.length) = (List.replicate n [AV.int .u32 0] ++ (vars.map fE).drop (a + n)).drop vs.length := by
  rw [List.drop_append, e1, List.drop_eq_nil_of_le (by rw [e1]; omega), List.nil_append, Nat.add_sub_cancel_left]
 rw [e4, List.drop_append_of_le_length (by rw [cW]; exact hp), List.drop_replicate]
 simp only [List.map_append, List.map_take, List.map_drop, List.map_replicate, List.append_assoc]
 rfl
end
structure tW (cx : Kx) (W : Nat) : Prop where
 inp : cx.inp.length ≤ 2000000
 fuel : cx.fuel < 9223372036854775808
 wl : W ≤ 32768
 funs : tX (W : Int) cx.funs
 body : ∀ f ∈ cx.funs, oV f.body
end Go.Al
