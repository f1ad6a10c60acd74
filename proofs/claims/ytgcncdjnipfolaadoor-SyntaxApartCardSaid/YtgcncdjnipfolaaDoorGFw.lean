/- Chapter 14: programs of few parts, and their texts on both sides. From a row's world to the little logic's: five tables are laid. -/
import Derived.Test.YtgcncdjnipfolaaDoorTp
import Derived.Test.YtgcncdjnipfolaaDoorJd
import Derived.Test.YtgcncdjnipfolaaDoorGSz
import Derived.Test.YtgcncdjnipfolaaDoorGSmf
import Derived.Test.YtgcncdjnipfolaaDoorSy2
import Derived.Test.YtgcncdjnipfolaaDoorAl4
import Derived.Test.YtgcncdjnipfolaaDoorAl3
set_option linter.unusedSimpArgs false
set_option linter.unusedVariables false
set_option maxRecDepth 10000
namespace Go.Al
theorem leftE_sz (n : Nat) : ∀ (l : List Ex) (left deep : Int), szE l ≤ n → 0 ≤ leftE l left deep → leftE l left deep + szE l = left := by
  induction n using Nat.strongRecOn with
  | _ n ih =>
    intro l left deep hn h
    cases l with
    | nil => rw [leftE, szE]; simp
    | cons e l =>
      have hs := e.sz_eq
      rw [szE] at hn ⊢
      rw [leftE_cons] at h ⊢
      split at h
      · omega
      · rename_i h1
        rw [if_neg h1]
        split at h
        · omega
        · rename_i h2
          rw [if_neg h2]
          have i1 := ih (szE l) (by omega) l _ deep (Nat.le_refl _) h
          have i2 := ih (szE e.kids) (by omega) e.kids (left - 1) (deep - 1) (Nat.le_refl _) (by omega)
          omega
theorem leftS_sz (n : Nat) : ∀ (l : List Sm) (left deep : Int), szS l ≤ n → 0 ≤ leftS l left deep → leftS l left deep + szS l = left := by
  induction n using Nat.strongRecOn with
  | _ n ih =>
    intro l left deep hn h
    cases l with
    | nil => rw [leftS, szS]; simp
    | cons e l =>
      have hs := e.sz_eq
      rw [szS] at hn ⊢
      rw [leftS_cons] at h ⊢
      split at h
      · omega
      · rename_i h1
        rw [if_neg h1]
        split at h
        · omega
        · rename_i h2
          rw [if_neg h2]
          have i1 := ih (szS l) (by omega) l _ deep (Nat.le_refl _) h
          have i2 := ih (szS e.els) (by omega) e.els (leftS e.thn (leftE e.es (left - 1) (deep - 1)) (deep - 1)) (deep - 1) (Nat.le_refl _) (by omega)
          have i3 := ih (szS e.thn) (by omega) e.thn (leftE e.es (left - 1) (deep - 1)) (deep - 1) (Nat.le_refl _) (by omega)
          have i4 := leftE_sz _ e.es (left - 1) (deep - 1) (Nat.le_refl _) (by omega)
          omega
theorem leftF_sz : ∀ (l : List Fu) (left : Int), 0 ≤ leftF l left → leftF l left ≤ left ∧ ∀ f ∈ l, (szS f.body : Int) ≤ left
  | [], left, h => ⟨by rw [leftF]; exact Int.le_refl _, fun f hf => by cases hf⟩
  | f :: l, left, h => by
    rw [leftF] at h ⊢
    obtain ⟨h1, h2⟩ := leftF_sz l _ h
    have h3 := leftS_sz _ f.body (left - f.params.length - f.locs.length) 60 (Nat.le_refl _) (by omega)
    refine ⟨by omega, fun g hg => ?_⟩
    rcases List.mem_cons.mp hg with rfl | hg
    · omega
    · have := h2 g hg; omega

end Go.Al
namespace Go.Proofs.YtgcncdjnipfolaaDoor
open Go.Al
structure Fw (p : Pg) : Prop where
  ok : p.ok
  v : p.vars.length ≤ 10000
  a : p.arrs.length ≤ 10000
  f : p.funs.length ≤ 10000
  fs : ∀ f ∈ p.funs, f.params.length ≤ 10000 ∧ f.locs.length ≤ 10000 ∧ szS f.body ≤ 10000
theorem Fw.of {p : Pg} (hp : p.ok) {m : Int} (hm : m ≤ 400) (h : fewB p m = true) : Fw p := by
  simp only [fewB, Bool.and_eq_true, decide_eq_true_eq, List.all_eq_true] at h
  obtain ⟨⟨⟨⟨⟨h1, h2⟩, h3⟩, h4⟩, h5⟩, h6⟩ := h
  have hs := (leftF_sz _ _ h6).2
  refine ⟨hp, ?_, by omega, by omega, fun f hf => ?_⟩
  · have := (shortB_len h1).1; omega
  · have hff := h5 f hf
    simp only [fewF, Bool.and_eq_true] at hff
    have q1 := (shortB_len hff.1.1).1
    have q2 := (shortB_len hff.1.2).1
    have := hs f hf
    refine ⟨by omega, by omega, by omega⟩
theorem Fw.right {p : Pg} (h : Fw p) : PCon env 13 [p.av] (.bool (rightP p)) :=
  Right_con p h.ok fun f hf => by have := h.fs f hf; omega
theorem Fw.len {p : Pg} (h : Fw p) (hr : rightP p = true) : (prP p).length ≤ 140737488355328 :=
  prP_len h.ok hr 10000 (by omega) h.v h.a fun f hf => ⟨(h.fs f hf).2.1, (h.fs f hf).2.2⟩
theorem right_arr {p : Pg} (hr : rightP p = true) : ∀ a ∈ p.arrs, 0 ≤ a.size ∧ a.size < 4294967296 := fun a ha => by
  simp only [rightP, Bool.and_eq_true, decide_eq_true_eq, List.all_eq_true] at hr
  have := hr.1.2 a ha
  simp only [rightA, Bool.and_eq_true, decide_eq_true_eq] at this
  omega
theorem right_body {p : Pg} (hr : rightP p = true) : ∀ f ∈ p.funs, rightS f.body 1 = true := fun f hf => by
  simp only [rightP, Bool.and_eq_true, decide_eq_true_eq, List.all_eq_true] at hr
  have := hr.2 f hf
  simp only [rightF, Bool.and_eq_true] at this
  exact this.2
theorem Fw.pPrint {p : Pg} (h : Fw p) (hr : rightP p = true) : PCon env 18 [p.av] (.str (prP p)) := by
  have hv := h.v; have ha := h.a; have hf := h.f
  refine Print_con p (by omega) (by omega) (by omega) (right_arr hr) (fun f hfm => ?_) (h.len hr)
  have hq := h.fs f hfm
  have hb := right_body hr f hfm
  have ho := (h.ok.funs f hfm).body
  have hl := szS_len f.body
  refine ⟨by omega, by omega, stmts_con 1 f.body (by omega) fun s hs => ?_⟩
  have hm := szS_mem hs
  exact stmt_con s.sz (by omega) s 1 (Nat.le_refl _) (ho.all s hs) (Nat.le_refl _) (rightS_mem hb s hs)
theorem Fw.jPrint {p : Pg} (h : Fw p) (hr : rightP p = true) : PCon env 19 [p.av] (.str (prP p)) := by
  have hv := h.v; have ha := h.a; have hf := h.f
  refine jPrint_con p (by omega) (by omega) (by omega) (right_arr hr) (fun f hfm => ?_) (h.len hr)
  have hq := h.fs f hfm
  have hb := right_body hr f hfm
  have ho := (h.ok.funs f hfm).body
  exact ⟨by omega, by omega, jstmts_con (szS f.body) (by omega) f.body 1 (Nat.le_refl _) ho (by omega) hb⟩
theorem Fw.size {p : Pg} (h : Fw p) : PCon env 17 [p.av] (.int .i64 ((sizP p : Nat) : Int)) :=
  Size_con p h.v h.a h.f fun f hf => by have := h.fs f hf; simp only [cntF]; omega
theorem Fw.psize {p : Pg} (h : Fw p) : PCon env 16 [p.av] (.int .i64 ((sizP p : Nat) : Int)) :=
  pSize_con p h.v h.a h.f fun f hf => by have := h.fs f hf; simp only [cntF]; omega
theorem okE_nil : okE [] := ⟨(by simp [fitL]), fun e h => by cases h⟩
theorem okE_1 {e : Ex} (h : e.ok) : okE [e] := ⟨(by simp [fitL]), fun x hx => by rw [List.mem_singleton] at hx; rw [hx]; exact h⟩
theorem okE_2 {e f : Ex} (h : e.ok) (h' : f.ok) : okE [e, f] := ⟨(by simp [fitL]), fun x hx => by
  rcases List.mem_cons.1 hx with rfl | hx
  · exact h
  · rw [List.mem_singleton] at hx; rw [hx]; exact h'⟩
theorem ex_ok' (k o n : Int) (hk : i64R k) (ho : i64R o) (hn : u32R n) {s : Str} (hs : fitL s) {l : List Ex} (hl : okE l) : (Ex.mk k o n s l).ok := .mk _ _ _ _ _ hk ho hn hs hl.fit hl.all

def aE : Ex := .mk 2 0 0 [97] []
def oneE : Ex := .mk 1 0 1 [] []
def eE : Ex := .mk 6 4 0 [] [oneE, aE]
def pE : Pg := ⟨[[97]], [], [⟨[109, 97, 105, 110], [], [], false, [.mk 3 [] [eE] [] []]⟩]⟩
def qE : Pg := ⟨[[105, 102]], [], [⟨[109, 97, 105, 110], [], [], false, [.mk 3 [] [eE] [] []]⟩]⟩
def pZ : Pg := ⟨[], [], []⟩
theorem ok_eE : eE.ok := ex_ok' 6 4 0 (by simp [i64R]) (by simp [i64R]) (by simp [u32R]) (by simp [fitL]) (okE_2 (ex_ok' 1 0 1 (by simp [i64R]) (by simp [i64R]) (by simp [u32R]) (by simp [fitL]) okE_nil) (ex_ok' 2 0 0 (by simp [i64R]) (by simp [i64R]) (by simp [u32R]) (by simp [fitL]) okE_nil))
theorem fw_E (s : Str) (hs : fitL s) : Fw (⟨[s], [], [⟨[109, 97, 105, 110], [], [], false, [.mk 3 [] [eE] [] []]⟩]⟩ : Pg) := by
  refine ⟨⟨⟨by simp [fitL], fun s hs => by simp only [List.mem_singleton] at hs; subst hs; assumption⟩, by simp [fitL], (fun a h => by cases h), by simp [fitL], fun f hf => ?_⟩, by simp, by simp, by simp, fun f hf => ?_⟩
  · simp only [List.mem_singleton] at hf
    subst hf
    refine ⟨by simp [fitL], ⟨by simp [fitL], (fun s h => by cases h)⟩, ⟨by simp [fitL], fun s h => by cases h⟩, ⟨by simp [fitL], fun s hs => ?_⟩⟩
    simp only [List.mem_singleton] at hs
    subst hs
    exact .mk _ _ _ _ _ (by simp [i64R]) (by simp [fitL]) (okE_1 ok_eE) (by simp [fitL]) (fun e h => by cases h) (by simp [fitL]) (fun e h => by cases h)
  · simp only [List.mem_singleton] at hf
    subst hf
    simp [szS, Sm.sz, szE, Ex.sz, eE, aE, oneE]
theorem fw_pE : Fw pE := fw_E _ (by simp [fitL])
theorem fw_qE : Fw qE := fw_E _ (by simp [fitL])
theorem fw_pZ : Fw pZ := ⟨⟨⟨by simp [pZ, fitL], fun s h => by cases h⟩, by simp [pZ, fitL], (fun a h => by cases h), by simp [pZ, fitL], (fun f h => by cases h)⟩, by simp [pZ], by simp [pZ], by simp [pZ], fun f h => by cases h⟩
theorem rE : rightX eE 1 = true := by
  simp only [eE, aE, oneE, rightX, rightE_cons, rightE_nil, Ex.kids]
  decide +kernel
theorem rp : rightP pE = true := by
  simp only [rightP, rightF, pE, eE, aE, oneE, List.all_cons, List.all_nil, rightS_cons, rightS_nil, rightM, rightE_cons, rightE_nil, rightX, Ex.kids, Sm.es, Sm.thn, Sm.els]
  decide +kernel
theorem rq : rightP qE = false := by
  simp only [rightP, rightF, qE, eE, aE, oneE, List.all_cons, List.all_nil, rightS_cons, rightS_nil, rightM, rightE_cons, rightE_nil, rightX, Ex.kids, Sm.es, Sm.thn, Sm.els]
  decide +kernel
theorem rz : rightP pZ = false := by decide +kernel
theorem d1 : Lib.decDigits (1 : Int).toNat = [49] := by rw [show (1 : Int).toNat = 1 from rfl, Lib.decDigits_one (by decide)]; rfl
theorem tE : prE eE = [40, 49, 32, 43, 32, 97, 41] := by
  have := d1
  simp [eE, aE, oneE, prE, pr1, pr2, prL, prT, sgn] at this ⊢
  rw [this]; rfl
theorem tP : prP pE = [118, 97, 114, 32, 97, 59, 10, 102, 117, 110, 99, 32, 109, 97, 105, 110, 40, 41, 32, 123, 10, 32, 32, 112, 117, 116, 40, 40, 49, 32, 43, 32, 97, 41, 41, 59, 10, 125, 10] := by
  have := tE
  simp [pE, prP, prAs, prFs, prF, prB, prM, prL, prT, comma, Lib.join_one, Lib.join_nil, ind, this]
theorem zP : sizP pE = 6 := by simp [sizP, sumF, cntF, pE, szS, Sm.sz, szE, Ex.sz, eE, aE, oneE]
theorem awake_con : PCon env 10 [] (.bool true) := by
  have e1 := pRight_con pE fw_pE.ok
  have e2 := pRight_con qE fw_qE.ok
  have e3 := pRight_con pZ fw_pZ.ok
  have e4 := fw_pE.psize
  have e5 := Expr_con eE 1 ok_eE rE (by rw [tE]; decide)
  have e6 := fw_pE.pPrint rp
  have e7 := pSame_con pE qE fw_pE.ok fw_qE.ok
  rw [rp] at e1
  rw [rq] at e2
  rw [rz] at e3
  rw [zP] at e4
  rw [tE] at e5
  rw [tP] at e6
  rw [eqB_false (by rw [pE, qE]; simp)] at e7
  simp only [pE, qE, pZ, eE, aE, oneE, Pg.av, Pg.row, Fu.row, Ex.row_eq, Sm.row_eq, List.map_cons, List.map_nil, strRow, Ex.kind, Ex.op, Ex.num, Ex.name, Ex.kids, Sm.kind, Sm.name, Sm.es, Sm.thn, Sm.els] at e1 e2 e3 e4 e5 e6 e7
  refine con_of 57 [.tmp 0] Tryd.func10 rfl rfl rfl rfl ?_
  refine awp_seq_k fun K hK => ?_
  refine awp_region rfl ?_
  simp only [RR, seval]
  refine hK _ _ ?_; clear hK K
  refine awp_seq_k fun K hK => ?_
  refine awp_region rfl ?_
  simp only [RR, seval]
  refine awpN_intro fun b1 hn1 => ?_
  simp only [RR, seval]
  refine hK _ _ ?_; clear hK K
  refine awp_seq_k fun K hK => ?_
  refine awp_region rfl ?_
  simp only [RR, seval]
  refine awpN_intro fun b2 hn2 => ?_
  have nb2_b1 : b2 ≠ b1 := fun e => by rw [e] at hn2; simp only [RR, seval, reduceCtorEq] at hn2
  have nb1_b2 : b1 ≠ b2 := fun e => nb2_b1 e.symm
  simp only [nb2_b1, nb1_b2, RR, seval]
  refine hK _ _ ?_; clear hK K
  refine awp_seq_k fun K hK => ?_
  refine awp_region rfl ?_
  simp only [nb2_b1, nb1_b2, RR, seval]
  refine awpB_sealed ?_
  simp only [nb2_b1, nb1_b2, RR, seval]
  refine awpN_intro fun b3 hn3 => ?_
  have nb3_b1 : b3 ≠ b1 := fun e => by rw [e] at hn3; simp only [nb2_b1, nb1_b2, RR, seval, reduceCtorEq] at hn3
  have nb1_b3 : b1 ≠ b3 := fun e => nb3_b1 e.symm
  have nb3_b2 : b3 ≠ b2 := fun e => by rw [e] at hn3; simp only [nb2_b1, nb1_b2, RR, seval, reduceCtorEq] at hn3
  have nb2_b3 : b2 ≠ b3 := fun e => nb3_b2 e.symm
  simp only [nb2_b1, nb1_b2, nb3_b1, nb1_b3, nb3_b2, nb2_b3, RR, seval]
  refine hK _ _ ?_; clear hK K
  refine awp_seq_k fun K hK => ?_
  refine awp_region rfl ?_
  simp only [nb2_b1, nb1_b2, nb3_b1, nb1_b3, nb3_b2, nb2_b3, RR, seval]
  refine awpB_sealed ?_
  simp only [nb2_b1, nb1_b2, nb3_b1, nb1_b3, nb3_b2, nb2_b3, RR, seval]
  refine awpB_sealed ?_
  simp only [nb2_b1, nb1_b2, nb3_b1, nb1_b3, nb3_b2, nb2_b3, RR, seval]
  refine awpB_sealed ?_
  simp only [nb2_b1, nb1_b2, nb3_b1, nb1_b3, nb3_b2, nb2_b3, RR, seval]
  refine awpB_sealed ?_
  simp only [nb2_b1, nb1_b2, nb3_b1, nb1_b3, nb3_b2, nb2_b3, RR, seval]
  refine awpN_intro fun b4 hn4 => ?_
  have nb4_b1 : b4 ≠ b1 := fun e => by rw [e] at hn4; simp only [nb2_b1, nb1_b2, nb3_b1, nb1_b3, RR, seval, reduceCtorEq] at hn4
  have nb1_b4 : b1 ≠ b4 := fun e => nb4_b1 e.symm
  have nb4_b2 : b4 ≠ b2 := fun e => by rw [e] at hn4; simp only [nb2_b1, nb1_b2, nb3_b2, nb2_b3, RR, seval, reduceCtorEq] at hn4
  have nb2_b4 : b2 ≠ b4 := fun e => nb4_b2 e.symm
  have nb4_b3 : b4 ≠ b3 := fun e => by rw [e] at hn4; simp only [nb3_b1, nb1_b3, nb3_b2, nb2_b3, RR, seval, reduceCtorEq] at hn4
  have nb3_b4 : b3 ≠ b4 := fun e => nb4_b3 e.symm
  simp only [nb2_b1, nb1_b2, nb3_b1, nb1_b3, nb3_b2, nb2_b3, nb4_b1, nb1_b4, nb4_b2, nb2_b4, nb4_b3, nb3_b4, RR, seval]
  refine hK _ _ ?_; clear hK K
  refine awp_seq_k fun K hK => ?_
  refine awp_region rfl ?_
  simp only [nb2_b1, nb1_b2, nb3_b1, nb1_b3, nb3_b2, nb2_b3, nb4_b1, nb1_b4, nb4_b2, nb2_b4, nb4_b3, nb3_b4, RR, seval]
  refine awpB_sealed ?_
  simp only [nb2_b1, nb1_b2, nb3_b1, nb1_b3, nb3_b2, nb2_b3, nb4_b1, nb1_b4, nb4_b2, nb2_b4, nb4_b3, nb3_b4, RR, seval]
  refine awpN_intro fun b5 hn5 => ?_
  have nb5_b1 : b5 ≠ b1 := fun e => by rw [e] at hn5; simp only [nb2_b1, nb1_b2, nb3_b1, nb1_b3, nb4_b1, nb1_b4, RR, seval, reduceCtorEq] at hn5
  have nb1_b5 : b1 ≠ b5 := fun e => nb5_b1 e.symm
  have nb5_b2 : b5 ≠ b2 := fun e => by rw [e] at hn5; simp only [nb2_b1, nb1_b2, nb3_b2, nb2_b3, nb4_b2, nb2_b4, RR, seval, reduceCtorEq] at hn5
  have nb2_b5 : b2 ≠ b5 := fun e => nb5_b2 e.symm
  have nb5_b3 : b5 ≠ b3 := fun e => by rw [e] at hn5; simp only [nb3_b1, nb1_b3, nb3_b2, nb2_b3, nb4_b3, nb3_b4, RR, seval, reduceCtorEq] at hn5
  have nb3_b5 : b3 ≠ b5 := fun e => nb5_b3 e.symm
  have nb5_b4 : b5 ≠ b4 := fun e => by rw [e] at hn5; simp only [nb4_b1, nb1_b4, nb4_b2, nb2_b4, nb4_b3, nb3_b4, RR, seval, reduceCtorEq] at hn5
  have nb4_b5 : b4 ≠ b5 := fun e => nb5_b4 e.symm
  simp only [nb2_b1, nb1_b2, nb3_b1, nb1_b3, nb3_b2, nb2_b3, nb4_b1, nb1_b4, nb4_b2, nb2_b4, nb4_b3, nb3_b4, nb5_b1, nb1_b5, nb5_b2, nb2_b5, nb5_b3, nb3_b5, nb5_b4, nb4_b5, RR, seval]
  refine hK _ _ ?_; clear hK K
  refine awp_seq_k fun K hK => ?_
  refine awp_region rfl ?_
  simp only [nb2_b1, nb1_b2, nb3_b1, nb1_b3, nb3_b2, nb2_b3, nb4_b1, nb1_b4, nb4_b2, nb2_b4, nb4_b3, nb3_b4, nb5_b1, nb1_b5, nb5_b2, nb2_b5, nb5_b3, nb3_b5, nb5_b4, nb4_b5, RR, seval]
  refine awpC_pure e1 (by refine SubR.list ?_; repeat' (first | exact SubR.nil | exact SubRs.nil | exact Sub.refl _ | exact Sub.nsl _ | refine SubR.cons ?_ ?_ | refine SubRs.cons ?_ ?_ | refine Sub.isl ?_ | refine Sub.aggR ?_)) ?_
  simp only [nb2_b1, nb1_b2, nb3_b1, nb1_b3, nb3_b2, nb2_b3, nb4_b1, nb1_b4, nb4_b2, nb2_b4, nb4_b3, nb3_b4, nb5_b1, nb1_b5, nb5_b2, nb2_b5, nb5_b3, nb3_b5, nb5_b4, nb4_b5, RR, seval]
  refine awpC_pure e2 (by refine SubR.list ?_; repeat' (first | exact SubR.nil | exact SubRs.nil | exact Sub.refl _ | exact Sub.nsl _ | refine SubR.cons ?_ ?_ | refine SubRs.cons ?_ ?_ | refine Sub.isl ?_ | refine Sub.aggR ?_)) ?_
  simp only [nb2_b1, nb1_b2, nb3_b1, nb1_b3, nb3_b2, nb2_b3, nb4_b1, nb1_b4, nb4_b2, nb2_b4, nb4_b3, nb3_b4, nb5_b1, nb1_b5, nb5_b2, nb2_b5, nb5_b3, nb3_b5, nb5_b4, nb4_b5, RR, seval]
  refine awpC_pure e3 (by refine SubR.list ?_; repeat' (first | exact SubR.nil | exact SubRs.nil | exact Sub.refl _ | exact Sub.nsl _ | refine SubR.cons ?_ ?_ | refine SubRs.cons ?_ ?_ | refine Sub.isl ?_ | refine Sub.aggR ?_)) ?_
  simp only [nb2_b1, nb1_b2, nb3_b1, nb1_b3, nb3_b2, nb2_b3, nb4_b1, nb1_b4, nb4_b2, nb2_b4, nb4_b3, nb3_b4, nb5_b1, nb1_b5, nb5_b2, nb2_b5, nb5_b3, nb3_b5, nb5_b4, nb4_b5, RR, seval]
  refine awpC_pure e4 (by refine SubR.list ?_; repeat' (first | exact SubR.nil | exact SubRs.nil | exact Sub.refl _ | exact Sub.nsl _ | refine SubR.cons ?_ ?_ | refine SubRs.cons ?_ ?_ | refine Sub.isl ?_ | refine Sub.aggR ?_)) ?_
  simp only [nb2_b1, nb1_b2, nb3_b1, nb1_b3, nb3_b2, nb2_b3, nb4_b1, nb1_b4, nb4_b2, nb2_b4, nb4_b3, nb3_b4, nb5_b1, nb1_b5, nb5_b2, nb2_b5, nb5_b3, nb3_b5, nb5_b4, nb4_b5, RR, seval]
  refine awpC_pure e5 (by refine SubR.list ?_; repeat' (first | exact SubR.nil | exact SubRs.nil | exact Sub.refl _ | exact Sub.nsl _ | refine SubR.cons ?_ ?_ | refine SubRs.cons ?_ ?_ | refine Sub.isl ?_ | refine Sub.aggR ?_)) ?_
  simp only [nb2_b1, nb1_b2, nb3_b1, nb1_b3, nb3_b2, nb2_b3, nb4_b1, nb1_b4, nb4_b2, nb2_b4, nb4_b3, nb3_b4, nb5_b1, nb1_b5, nb5_b2, nb2_b5, nb5_b3, nb3_b5, nb5_b4, nb4_b5, RR, seval]
  refine awpC_pure e6 (by refine SubR.list ?_; repeat' (first | exact SubR.nil | exact SubRs.nil | exact Sub.refl _ | exact Sub.nsl _ | refine SubR.cons ?_ ?_ | refine SubRs.cons ?_ ?_ | refine Sub.isl ?_ | refine Sub.aggR ?_)) ?_
  simp only [nb2_b1, nb1_b2, nb3_b1, nb1_b3, nb3_b2, nb2_b3, nb4_b1, nb1_b4, nb4_b2, nb2_b4, nb4_b3, nb3_b4, nb5_b1, nb1_b5, nb5_b2, nb2_b5, nb5_b3, nb3_b5, nb5_b4, nb4_b5, RR, seval]
  refine awpC_pure e7 (by refine SubR.list ?_; repeat' (first | exact SubR.nil | exact SubRs.nil | exact Sub.refl _ | exact Sub.nsl _ | refine SubR.cons ?_ ?_ | refine SubRs.cons ?_ ?_ | refine Sub.isl ?_ | refine Sub.aggR ?_)) ?_
  simp only [nb2_b1, nb1_b2, nb3_b1, nb1_b3, nb3_b2, nb2_b3, nb4_b1, nb1_b4, nb4_b2, nb2_b4, nb4_b3, nb3_b4, nb5_b1, nb1_b5, nb5_b2, nb2_b5, nb5_b3, nb3_b5, nb5_b4, nb4_b5, RR, seval]
  refine hK _ _ ?_; clear hK K
  refine awp_ret ?_; simp only [bodyQ, aresult, ares, RR, seval]
  refine Gives.pure ?_
  rfl
end Go.Proofs.YtgcncdjnipfolaaDoor

namespace Go.Al
open Go.Lib
theorem tab_of_laid {P : Program} {W : World} {name : String} {k : IntKind} {zs : List Int} {g : Nat} {t e : TypeId} {n : Nat} (hg : P.globalNamed name = some g) (hty : (P.globals[g]?).map (·.type) = some t) (ht : P.underlying t = some (.array n e)) (he : P.underlying e = some (.int k)) (hce : P.cellsOf e = 1) (hct : P.cellsOf t = n) :
    ∀ {l : List (String × DataW Unit)} {ps : List MemPlace}, DataW.LaidVars P W l ps → (name, tabData k zs) ∈ l → W.var? P name = some (zs.map fun z => Value.int k z).toArray
  | [], _, _, hm => by cases hm
  | (nm, d) :: rest, ps, h, hm => by
    obtain ⟨g', t', cs, fuel, p, q, hg', ht', hvar, hd, hrest, _⟩ := h
    rcases List.mem_cons.1 hm with hm | hm
    · cases hm
      obtain rfl := Option.some.inj (hg.symm.trans hg')
      obtain rfl := Option.some.inj (hty.symm.trans ht')
      rw [hvar, ← cells_of_tab ht he hce hct hd]
    · exact tab_of_laid hg hty ht he hce hct hrest hm
def litCell : DataW Unit → Value
  | .lit (.int k z) => .int k z
  | .lit (.string s) => .string ⟨s.toArray⟩
  | _ => Go.undef
def dataCells : DataW Unit → Array Value
  | .agg l => (l.map litCell).toArray
  | _ => #[]
end Go.Al
namespace Go.Proofs.YtgcncdjnipfolaaDoor
open Go.Al Go.Lib
theorem gWords : Tryd.prog.globalNamed "seedcorn/token.words" = some 1 := by kernel_rfl
theorem gWordsT : (Tryd.prog.globals[1]?).map (·.type) = some 96 := by kernel_rfl
theorem gSigns : Tryd.prog.globalNamed "seedcorn/syntax.signs" = some 0 := by kernel_rfl
theorem gSignsT : (Tryd.prog.globals[0]?).map (·.type) = some 95 := by kernel_rfl
theorem gPow : Tryd.prog.globalNamed "internal/strconv.uint64pow10" = some 3 := by kernel_rfl
theorem gPowT : (Tryd.prog.globals[3]?).map (·.type) = some 107 := by kernel_rfl
theorem u10 : Tryd.prog.underlying 96 = some (.array 10 9) := by kernel_rfl
theorem u12 : Tryd.prog.underlying 95 = some (.array 12 9) := by kernel_rfl
theorem u20 : Tryd.prog.underlying 107 = some (.array 20 86) := by kernel_rfl
theorem uStr : Tryd.prog.underlying 9 = some .string := by kernel_rfl
theorem uU64 : Tryd.prog.underlying 86 = some (.int .u64) := by kernel_rfl
theorem cStr : Tryd.prog.cellsOf 9 = 1 := by kernel_rfl
theorem cU64 : Tryd.prog.cellsOf 86 = 1 := by kernel_rfl
theorem c10 : Tryd.prog.cellsOf 96 = 10 := by kernel_rfl
theorem c12 : Tryd.prog.cellsOf 95 = 12 := by kernel_rfl
theorem c20 : Tryd.prog.cellsOf 107 = 20 := by kernel_rfl
theorem row_cells {S : Seal} {w : World} {b : Nat} {α : Type} (fv : α → Value) (fa : α → AV) (hv : ∀ a, VRel S w (fa a) (fv a)) : ∀ (ws : List α) (off : Nat), (∀ (i : Nat) s, ws[i]? = some s → w.cell? ⟨b, off + i, none⟩ = some (fv s)) → RowRel S w b off (ws.map fa)
  | [], _, _ => by simp only [List.map_nil, RowRel]
  | s :: ws, off, h => by
    simp only [List.map_cons, RowRel]
    refine ⟨⟨_, by simpa using h 0 s rfl, hv s⟩, row_cells fv fa hv ws (off + 1) fun i s' hs => ?_⟩
    rw [show off + 1 + i = off + (i + 1) by omega]
    exact h (i + 1) s' (by simpa using hs)
def powZ : List Int := [1, 10, 100, 1000, 10000, 100000, 1000000, 10000000, 100000000, 1000000000, 10000000000, 100000000000, 1000000000000, 10000000000000, 100000000000000, 1000000000000000, 10000000000000000, 100000000000000000, 1000000000000000000, 10000000000000000000]
theorem st_of_laid {W : World} (hL : laidMet Tryd.prog [("math/bits.deBruijn32tab", Rows.laid_math_bits_deBruijn32tab), ("math/bits.deBruijn64tab", Rows.laid_math_bits_deBruijn64tab), ("internal/strconv.uint64pow10", Rows.laid_internal_strconv_uint64pow10), ("seedcorn/token.words", Rows.laid_seedcorn_token_words), ("seedcorn/syntax.signs", Rows.laid_seedcorn_syntax_signs)] W) : St env ⟨W, dom emp, old W, [], fun _ => Go.undef⟩ (old W) emp W := by
  obtain ⟨ps, hv, _⟩ := hL
  have v1 : W.var? Tryd.prog "seedcorn/token.words" = some (wordsL.map fun s => Value.string ⟨s.toArray⟩).toArray := strs_of_laid gWords gWordsT u10 uStr cStr c10 hv (by simp only [List.mem_cons]; right; right; right; left; rfl)
  have v2 : W.var? Tryd.prog "seedcorn/syntax.signs" = some (opL.map fun s => Value.string ⟨s.toArray⟩).toArray := strs_of_laid gSigns gSignsT u12 uStr cStr c12 hv (by simp only [List.mem_cons]; right; right; right; right; left; rfl)
  have v3 : W.var? Tryd.prog "internal/strconv.uint64pow10" = some (powZ.map fun z => Value.int .u64 z).toArray := tab_of_laid gPow gPowT u20 uU64 cU64 c20 hv (by simp only [List.mem_cons]; right; right; left; rfl)
  have lt : ∀ {n : String} {g : Nat} {cs : Array Value}, Tryd.prog.globalNamed n = some g → W.var? Tryd.prog n = some cs → g < W.heap.size := fun {n g cs} hg h => by
    simp only [World.var?, hg, Option.bind_some] at h
    split at h
    · rename_i e; exact (Array.getElem?_eq_some_iff.1 e).1
    · cases h
  refine ⟨fun k hk => hk, fun _ h => h, fun k hk => .inl hk, fun b o h => (by cases h), Ext.refl _ _, fun g row h => ?_⟩
  · have key : ∀ {α : Type} (fv : α → Value) (fa : α → AV), (∀ a, VRel (old W) W (fa a) (fv a)) → ∀ {n : String} {g : Nat} {ws : List α}, Tryd.prog.globalNamed n = some g → W.var? Tryd.prog n = some (ws.map fv).toArray → RowRel (old W) W g 0 (ws.map fa) := fun {α} fv fa hva {n g ws} hg h =>
      row_cells fv fa hva ws 0 fun i s hs => by
        rw [World.var?_cell hg h]
        simp [hs]
    have ks : ∀ {n : String} {g : Nat} {ws : List (List UInt8)}, Tryd.prog.globalNamed n = some g → W.var? Tryd.prog n = some (ws.map fun s => Value.string ⟨s.toArray⟩).toArray → RowRel (old W) W g 0 (ws.map .str) := fun {n g ws} hg h => key (fun s : List UInt8 => Value.string ⟨s.toArray⟩) AV.str (fun a => by simp only [VRel]) hg h
    simp only [envG, gtab] at h
    split at h
    · cases h; exact ⟨lt gWords v1, ks gWords v1⟩
    · cases h; exact ⟨lt gSigns v2, ks gSigns v2⟩
    · cases h; exact ⟨lt gPow v3, key (fun z : Int => Value.int .u64 z) (AV.int .u64) (fun a => by simp only [VRel]) (ws := powZ) gPow v3⟩
    · cases h
def setCells (d : DataW Unit) : Obj → Obj
  | .cells _ t frozen => .cells (dataCells d) t frozen
  | o => o
noncomputable def laidHeap (h : Array Obj) : Array Obj :=
  ((((h.modify 4 (setCells Rows.laid_math_bits_deBruijn32tab)).modify 5 (setCells Rows.laid_math_bits_deBruijn64tab)).modify 3 (setCells Rows.laid_internal_strconv_uint64pow10)).modify 1 (setCells Rows.laid_seedcorn_token_words)).modify 0 (setCells Rows.laid_seedcorn_syntax_signs)
end Go.Proofs.YtgcncdjnipfolaaDoor
