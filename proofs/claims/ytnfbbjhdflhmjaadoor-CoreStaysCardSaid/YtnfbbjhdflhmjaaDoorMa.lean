/- Chapter 18: what a program does, in plain Lean: a run that is cut at a depth. No program in sight. Chapter 18, in plain Lean: a run that is cut deeper goes on the same; what a run puts out and counts grows. Chapter 18, in plain Lean: a program whose names are right comes to an end. Chapter 18, in plain Lean: a program whose names are right comes to an end: statements, programs. Chapter 18, in plain Lean: what a run puts out and counts grows; what more fuel does. -/
import Derived.Test.YtnfbbjhdflhmjaaDoorSy1
set_option linter.unusedSimpArgs false
set_option linter.unusedVariables false
set_option maxRecDepth 10000
namespace Go.Al
def applyI (op a b : Int) : Int × Int :=
 if op = 4 then (IntKind.wrap .u32 (a + b), 0)
 else if op = 5 then (IntKind.wrap .u32 (a - b), 0)
 else if op = 6 then (IntKind.wrap .u32 (a * b), 0)
 else if op = 7 then (if b = 0 then (0, 14) else (IntKind.wrap .u32 (a.tdiv b), 0))
 else if op = 8 then (if b = 0 then (0, 14) else (a.tmod b, 0))
 else if op = 9 then (IntKind.wrap .u32 (BitVec.ofInt 32 a &&& BitVec.ofInt 32 b).toNat, 0)
 else if op = 10 then (IntKind.wrap .u32 (BitVec.ofInt 32 a ||| BitVec.ofInt 32 b).toNat, 0)
 else if op = 11 then (IntKind.wrap .u32 (BitVec.ofInt 32 a ^^^ BitVec.ofInt 32 b).toNat, 0)
 else if op = 12 then (if 31 < b then (0, 0) else (IntKind.wrap .u32 (a * 2 ^ (min b.toNat 32)), 0))
 else if op = 13 then (if 31 < b then (0, 0) else (a.fdiv (2 ^ (min b.toNat 32)), 0))
 else if op = 14 then ((if a < b then 1 else 0), 0)
 else if op = 15 then ((if a = b then 1 else 0), 0)
 else (0, 1)
structure RS where
 vars : List Int
 arrs : List (List Int)
 read : Nat
 out : List UInt8
 ticks : Nat
inductive Rz (α : Type) where
 | val (a : α) (s : RS)
 | fin (e : Int) (s : RS)
def Rz.st {α : Type} : Rz α → RS | .val _ s => s | .fin _ s => s
structure Cf where
 words : Nat
 res : Str → Bool × Int
 body : List Sm
structure Cx where
 funs : List Cf
 inp : Str
 fuel : Nat
def bindR {α β : Type} (x : Option (Rz α)) (f : α → RS → Option (Rz β)) : Option (Rz β) := match x with
 | none => none
 | some (.val a s) => f a s
 | some (.fin e s) => some (.fin e s)
def tickR (cx : Cx) (s : RS) : Rz Unit := if cx.fuel ≤ s.ticks then .fin 5 s else .val () { s with ticks := s.ticks + 1 }
def getR (cx : Cx) (s : RS) : Rz Int := match cx.inp[s.read]? with
 | some c => .val c.toNat { s with read := s.read + 1 }
 | none => .val 256 s
def putR (v : Int) (s : RS) : Rz Unit := if 65536 ≤ s.out.length then .fin 4 s else .val () { s with out := s.out ++ [UInt8.ofNat (IntKind.wrap .u8 v).toNat] }
def atR (i at' : Int) (s : RS) : Option (Rz Nat) := match s.arrs[i.toNat]? with
 | none => none
 | some l => if at'.toNat < l.length then some (.val at'.toNat s) else some (.fin 3 s)
def storeR (i : Int) (j : Nat) (v : Int) (s : RS) : RS := { s with arrs := s.arrs.modify i.toNat fun l => l.set j v }
def setR (p : Bool × Int) (v : Int) (ow : List Int) (s : RS) : Option (List Int × RS) :=
 if 0 ≤ p.2 then (if p.1 then (if p.2.toNat < ow.length then some (ow.set p.2.toNat v, s) else none) else if p.2.toNat < s.vars.length then some (ow, { s with vars := s.vars.set p.2.toNat v }) else none) else none
def lookR (p : Bool × Int) (ow : List Int) (s : RS) : Option Int := if 0 ≤ p.2 then (if p.1 then ow[p.2.toNat]? else s.vars[p.2.toNat]?) else none
mutual
def evE (cx : Cx) : Nat → (Str → Bool × Int) → List Int → Ex → RS → Option (Rz Int)
 | 0, _, _, _, _ => none
 | n + 1, rs, ow, .mk k o m s l, st =>
   if k = 1 then some (.val m st)
   else if k = 2 then (lookR (rs s) ow st).map fun v => .val v st
   else if k = 3 then match l[0]? with
    | none => none
    | some a => bindR (evE cx n rs ow a st) fun at' st => if 0 ≤ (rs s).2 then bindR (atR (rs s).2 at' st) fun j st => ((st.arrs[(rs s).2.toNat]?).bind fun l => l[j]?).map fun v => .val v st else none
   else if k = 4 then evC cx n rs ow (rs s).2 l st
   else if k = 5 then some (getR cx st)
   else match l[0]? with
    | none => none
    | some a =>
      if k = 7 then bindR (evE cx n rs ow a st) fun x st => some (.val (if x = 0 then 1 else 0) st)
      else match l[1]? with
      | none => none
      | some b =>
        if k = 6 then bindR (evE cx n rs ow a st) fun x st => bindR (evE cx n rs ow b st) fun y st => if (applyI o x y).2 = 0 then some (.val (applyI o x y).1 st) else some (.fin 2 st)
        else bindR (evE cx n rs ow a st) fun x st => if decide (x = 0) = decide (k = 8) then some (.val x st) else evE cx n rs ow b st
def evA (cx : Cx) : Nat → (Str → Bool × Int) → List Int → List Ex → RS → Option (Rz (List Int))
 | 0, _, _, _, _ => none
 | _ + 1, _, _, [], st => some (.val [] st)
 | n + 1, rs, ow, e :: l, st => bindR (evE cx n rs ow e st) fun v st => bindR (evA cx n rs ow l st) fun vs st => some (.val (v :: vs) st)
def evC (cx : Cx) : Nat → (Str → Bool × Int) → List Int → Int → List Ex → RS → Option (Rz Int)
 | 0, _, _, _, _, _ => none
 | n + 1, rs, ow, i, l, st => if i < 0 then none else match cx.funs[i.toNat]? with
   | none => none
   | some f => if f.words < l.length then none else bindR (evA cx n rs ow l st) fun vs st => bindR (some (tickR cx st)) fun _ st =>
     bindR (evL cx n f.res (vs ++ List.replicate (f.words - l.length) 0) f.body st) fun r st => some (.val (r.1.getD 0) st)
def evS (cx : Cx) : Nat → (Str → Bool × Int) → List Int → Sm → RS → Option (Rz (Option Int × List Int))
 | 0, _, _, _, _ => none
 | n + 1, rs, ow, .mk k s l t u, st =>
   if k = 1 then match l[0]? with
    | none => none
    | some a => bindR (evE cx n rs ow a st) fun v st => (setR (rs s) v ow st).map fun p => .val (none, p.1) p.2
   else if k = 2 then match l[0]?, l[1]? with
    | some a, some b => bindR (evE cx n rs ow a st) fun x st => bindR (evE cx n rs ow b st) fun v st => if 0 ≤ (rs s).2 then bindR (atR (rs s).2 x st) fun j st => some (.val (none, ow) (storeR (rs s).2 j v st)) else none
    | _, _ => none
   else if k = 3 then match l[0]? with
    | none => none
    | some a => bindR (evE cx n rs ow a st) fun v st => bindR (some (putR v st)) fun _ st => some (.val (none, ow) st)
   else if k = 4 then match l[0]? with
    | none => none
    | some a => bindR (evE cx n rs ow a st) fun v st => if v = 0 then evL cx n rs ow u st else evL cx n rs ow t st
   else if k = 5 then match l[0]? with
    | none => none
    | some a => evW cx n rs ow a t st
   else if k = 6 then bindR (evC cx n rs ow (rs s).2 l st) fun _ st => some (.val (none, ow) st)
   else if k = 7 then match l[0]? with
    | none => some (.val (some 0, ow) st)
    | some a => bindR (evE cx n rs ow a st) fun v st => some (.val (some v, ow) st)
   else some (.val (none, ow) st)
def evL (cx : Cx) : Nat → (Str → Bool × Int) → List Int → List Sm → RS → Option (Rz (Option Int × List Int))
 | 0, _, _, _, _ => none
 | _ + 1, _, ow, [], st => some (.val (none, ow) st)
 | n + 1, rs, ow, s :: l, st => bindR (evS cx n rs ow s st) fun r st => match r.1 with
   | some v => some (.val (some v, r.2) st)
   | none => evL cx n rs r.2 l st
def evW (cx : Cx) : Nat → (Str → Bool × Int) → List Int → Ex → List Sm → RS → Option (Rz (Option Int × List Int))
 | 0, _, _, _, _, _ => none
 | n + 1, rs, ow, c, t, st => bindR (some (tickR cx st)) fun _ st => bindR (evE cx n rs ow c st) fun x st => if x = 0 then some (.val (none, ow) st) else
   bindR (evL cx n rs ow t st) fun r st => match r.1 with
   | some v => some (.val (some v, r.2) st)
   | none => evW cx n rs r.2 c t st
end
end Go.Al
namespace Go.Al
def LeO {α : Type} (x y : Option α) : Prop := ∀ o, x = some o → y = some o
theorem LeO.refl {α : Type} (x : Option α) : LeO x x := fun _ h => h
theorem LeO.none {α : Type} (y : Option α) : LeO none y := fun _ h => by cases h
theorem LeO.bindR {α β : Type} {x y : Option (Rz α)} {f g : α → RS → Option (Rz β)} (h : LeO x y) (hf : ∀ a s, LeO (f a s) (g a s)) : LeO (bindR x f) (bindR y g) := fun o ho => by
 cases x with
 | none => cases ho
 | some r =>
   have := h r rfl
   subst this
   cases r with
   | val a s => exact hf a s o ho
   | fin e s => exact ho
theorem LeO.ite {α : Type} {c : Prop} [Decidable c] {x y x' y' : Option α} (h : LeO x x') (h' : LeO y y') : LeO (if c then x else y) (if c then x' else y') := by
 split
 ·exact h
 ·exact h'
structure Deep (cx : Cx) (n : Nat) : Prop where
 E : ∀ rs ow e st, LeO (evE cx n rs ow e st) (evE cx (n + 1) rs ow e st)
 A : ∀ rs ow l st, LeO (evA cx n rs ow l st) (evA cx (n + 1) rs ow l st)
 C : ∀ rs ow i l st, LeO (evC cx n rs ow i l st) (evC cx (n + 1) rs ow i l st)
 S : ∀ rs ow e st, LeO (evS cx n rs ow e st) (evS cx (n + 1) rs ow e st)
 L : ∀ rs ow l st, LeO (evL cx n rs ow l st) (evL cx (n + 1) rs ow l st)
 W : ∀ rs ow c t st, LeO (evW cx n rs ow c t st) (evW cx (n + 1) rs ow c t st)
theorem deep (cx : Cx) (n : Nat) : Deep cx n := by
 induction n with
 | zero =>
   constructor
   all_goals
    intros
    intro o h
    simp [evE, evA, evC, evS, evL, evW] at h
 | succ n ih =>
   obtain ⟨hE, hA, hC, hS, hL, hW⟩ := ih
   constructor
   ·rintro rs ow ⟨k, o, m, s, l⟩ st
    simp only [evE]
    refine LeO.ite (LeO.refl _) (LeO.ite (LeO.refl _) (LeO.ite ?_ (LeO.ite (hC _ _ _ _ _) (LeO.ite (LeO.refl _) ?_))))
    ·cases l[0]? with
     | none => exact LeO.refl _
     | some a => exact LeO.bindR (hE _ _ _ _) fun _ _ => LeO.refl _
    ·cases l[0]? with
     | none => exact LeO.refl _
     | some a =>
       refine LeO.ite (LeO.bindR (hE _ _ _ _) fun _ _ => LeO.refl _) ?_
       cases l[1]? with
       | none => exact LeO.refl _
       | some b =>
         refine LeO.ite (LeO.bindR (hE _ _ _ _) fun _ _ => LeO.bindR (hE _ _ _ _) fun _ _ => LeO.refl _) ?_
         exact LeO.bindR (hE _ _ _ _) fun _ _ => LeO.ite (LeO.refl _) (hE _ _ _ _)
   ·intro rs ow l st
    cases l with
    | nil => simp only [evA]; exact LeO.refl _
    | cons e l =>
      simp only [evA]
      exact LeO.bindR (hE _ _ _ _) fun _ _ => LeO.bindR (hA _ _ _ _) fun _ _ => LeO.refl _
   ·intro rs ow i l st
    simp only [evC]
    refine LeO.ite (LeO.refl _) ?_
    cases cx.funs[i.toNat]? with
    | none => exact LeO.refl _
    | some f => exact LeO.ite (LeO.refl _) (LeO.bindR (hA _ _ _ _) fun _ _ => LeO.bindR (LeO.refl _) fun _ _ => LeO.bindR (hL _ _ _ _) fun _ _ => LeO.refl _)
   ·rintro rs ow ⟨k, s, l, t, u⟩ st
    simp only [evS]
    refine LeO.ite ?_ (LeO.ite ?_ (LeO.ite ?_ (LeO.ite ?_ (LeO.ite ?_ (LeO.ite ?_ (LeO.ite ?_ (LeO.refl _)))))))
    ·cases l[0]? with
     | none => exact LeO.refl _
     | some a => exact LeO.bindR (hE _ _ _ _) fun _ _ => LeO.refl _
    ·cases l[0]? with
     | none => exact LeO.refl _
     | some a =>
       cases l[1]? with
       | none => exact LeO.refl _
       | some b => exact LeO.bindR (hE _ _ _ _) fun _ _ => LeO.bindR (hE _ _ _ _) fun _ _ => LeO.refl _
    ·cases l[0]? with
     | none => exact LeO.refl _
     | some a => exact LeO.bindR (hE _ _ _ _) fun _ _ => LeO.refl _
    ·cases l[0]? with
     | none => exact LeO.refl _
     | some a => exact LeO.bindR (hE _ _ _ _) fun _ _ => LeO.ite (hL _ _ _ _) (hL _ _ _ _)
    ·cases l[0]? with
     | none => exact LeO.refl _
     | some a => exact hW _ _ _ _ _
    ·exact LeO.bindR (hC _ _ _ _ _) fun _ _ => LeO.refl _
    ·cases l[0]? with
     | none => exact LeO.refl _
     | some a => exact LeO.bindR (hE _ _ _ _) fun _ _ => LeO.refl _
   ·intro rs ow l st
    cases l with
    | nil => simp only [evL]; exact LeO.refl _
    | cons s l =>
      simp only [evL]
      refine LeO.bindR (hS _ _ _ _) fun r st => ?_
      cases r.1 with
      | some v => exact LeO.refl _
      | none => exact hL _ _ _ _
   ·intro rs ow c t st
    simp only [evW]
    refine LeO.bindR (LeO.refl _) fun _ st => LeO.bindR (hE _ _ _ _) fun x st => LeO.ite (LeO.refl _) (LeO.bindR (hL _ _ _ _) fun r st => ?_)
    cases r.1 with
    | some v => exact LeO.refl _
    | none => exact hW _ _ _ _ _
theorem deeper {α : Type} {f : Nat → Option α} (h : ∀ n, LeO (f n) (f (n + 1))) {n m : Nat} (hm : n ≤ m) : LeO (f n) (f m) := by
 induction m with
 | zero => obtain rfl : n = 0 := by omega
           exact LeO.refl _
 | succ m ih =>
   rcases Nat.lt_or_ge m n with h1 | h1
   ·obtain rfl : n = m + 1 := by omega
    exact LeO.refl _
   ·exact fun o ho => h m o (ih h1 o ho)
theorem evE_deep {cx : Cx} {n m : Nat} (hm : n ≤ m) {rs ow e st o} (h : evE cx n rs ow e st = some o) : evE cx m rs ow e st = some o := deeper (f := fun n => evE cx n rs ow e st) (fun n => (deep cx n).E _ _ _ _) hm o h
theorem evA_deep {cx : Cx} {n m : Nat} (hm : n ≤ m) {rs ow e st o} (h : evA cx n rs ow e st = some o) : evA cx m rs ow e st = some o := deeper (f := fun n => evA cx n rs ow e st) (fun n => (deep cx n).A _ _ _ _) hm o h
theorem evC_deep {cx : Cx} {n m : Nat} (hm : n ≤ m) {rs ow i e st o} (h : evC cx n rs ow i e st = some o) : evC cx m rs ow i e st = some o := deeper (f := fun n => evC cx n rs ow i e st) (fun n => (deep cx n).C _ _ _ _ _) hm o h
theorem evS_deep {cx : Cx} {n m : Nat} (hm : n ≤ m) {rs ow e st o} (h : evS cx n rs ow e st = some o) : evS cx m rs ow e st = some o := deeper (f := fun n => evS cx n rs ow e st) (fun n => (deep cx n).S _ _ _ _) hm o h
theorem evL_deep {cx : Cx} {n m : Nat} (hm : n ≤ m) {rs ow e st o} (h : evL cx n rs ow e st = some o) : evL cx m rs ow e st = some o := deeper (f := fun n => evL cx n rs ow e st) (fun n => (deep cx n).L _ _ _ _) hm o h
theorem evW_deep {cx : Cx} {n m : Nat} (hm : n ≤ m) {rs ow c e st o} (h : evW cx n rs ow c e st = some o) : evW cx m rs ow c e st = some o := deeper (f := fun n => evW cx n rs ow c e st) (fun n => (deep cx n).W _ _ _ _ _) hm o h
end Go.Al
namespace Go.Al
def Tot {α : Type} (f : Nat → Option (Rz α)) (P : α → RS → Prop) : Prop := ∃ n r, f n = some r ∧ ∀ a s, r = .val a s → P a s
def Mono {α : Type} (f : Nat → Option α) : Prop := ∀ n, LeO (f n) (f (n + 1))
theorem Mono.const {α : Type} (x : Option α) : Mono fun _ => x := fun _ => LeO.refl _
theorem Tot.const {α : Type} {x : Rz α} {P : α → RS → Prop} (h : ∀ a s, x = .val a s → P a s) : Tot (fun _ => some x) P := ⟨0, x, rfl, h⟩
theorem Tot.mono {α : Type} {f : Nat → Option (Rz α)} {P Q : α → RS → Prop} (h : Tot f P) (hp : ∀ a s, P a s → Q a s) : Tot f Q := by
 obtain ⟨n, r, h1, h2⟩ := h
 exact ⟨n, r, h1, fun a s e => hp a s (h2 a s e)⟩
theorem Tot.bind {α β : Type} {f : Nat → Option (Rz α)} {g : α → RS → Nat → Option (Rz β)} {P : α → RS → Prop} {Q : β → RS → Prop} (h : Tot f P) (hf : Mono f) (hg : ∀ a s, Mono (g a s)) (h2 : ∀ a s, P a s → Tot (g a s) Q) : Tot (fun n => bindR (f n) fun a s => g a s n) Q := by
 obtain ⟨n, r, h1, hP⟩ := h
 cases r with
 | fin e s => exact ⟨n, .fin e s, by simp only [h1, bindR], fun a s e => by cases e⟩
 | val a s =>
   obtain ⟨m, r, h3, hQ⟩ := h2 a s (hP a s rfl)
   refine ⟨max n m, r, ?_, hQ⟩
   have e1 := deeper hf (Nat.le_max_left n m) _ h1
   have e2 := deeper (hg a s) (Nat.le_max_right n m) _ h3
   simp only [e1, bindR]
   exact e2
theorem Tot.ite {α : Type} {c : Prop} [Decidable c] {f g : Nat → Option (Rz α)} {P : α → RS → Prop} (h1 : c → Tot f P) (h2 : ¬ c → Tot g P) : Tot (fun n => if c then f n else g n) P := by
 by_cases h : c
 ·obtain ⟨n, r, e, hp⟩ := h1 h; exact ⟨n, r, by simp only [if_pos h, e], hp⟩
 ·obtain ⟨n, r, e, hp⟩ := h2 h; exact ⟨n, r, by simp only [if_neg h, e], hp⟩
theorem Tot.succ {α : Type} {f g : Nat → Option (Rz α)} {P : α → RS → Prop} (h : Tot f P) (he : ∀ n, g (n + 1) = f n) : Tot g P := by
 obtain ⟨n, r, h1, h2⟩ := h
 exact ⟨n + 1, r, by rw [he, h1], h2⟩
theorem mE (cx : Cx) (rs ow e st) : Mono fun n => evE cx n rs ow e st := fun n => (deep cx n).E _ _ _ _
theorem mA (cx : Cx) (rs ow e st) : Mono fun n => evA cx n rs ow e st := fun n => (deep cx n).A _ _ _ _
theorem mC (cx : Cx) (rs ow i e st) : Mono fun n => evC cx n rs ow i e st := fun n => (deep cx n).C _ _ _ _ _
theorem mS (cx : Cx) (rs ow e st) : Mono fun n => evS cx n rs ow e st := fun n => (deep cx n).S _ _ _ _
theorem mL (cx : Cx) (rs ow e st) : Mono fun n => evL cx n rs ow e st := fun n => (deep cx n).L _ _ _ _
theorem mW (cx : Cx) (rs ow c e st) : Mono fun n => evW cx n rs ow c e st := fun n => (deep cx n).W _ _ _ _ _
theorem Mono.bind {α β : Type} {f : Nat → Option (Rz α)} {g : α → RS → Nat → Option (Rz β)} (hf : Mono f) (hg : ∀ a s, Mono (g a s)) : Mono fun n => bindR (f n) fun a s => g a s n := fun n => LeO.bindR (hf n) fun a s => hg a s n
theorem Mono.ite {α : Type} {c : Prop} [Decidable c] {f g : Nat → Option α} (hf : Mono f) (hg : Mono g) : Mono fun n => if c then f n else g n := fun n => LeO.ite (hf n) (hg n)
structure Nm (cx : Cx) (nv na i : Nat) where
 w : Nat
 res : Str → Bool × Int
def varOk (cx : Cx) (nv i : Nat) (p : Bool × Int) : Prop := 0 ≤ p.2 ∧ (p.1 = true → ∀ f, cx.funs[i]? = some f → p.2 < f.words) ∧ (p.1 = false → p.2 < nv)
def callOk (cx : Cx) (i : Nat) (p : Bool × Int) (k : Nat) : Prop := 0 ≤ p.2 ∧ p.2 < i ∧ ∃ f, cx.funs[p.2.toNat]? = some f ∧ k ≤ f.words
mutual
def wfE (cx : Cx) (nv na i : Nat) (rs : Str → Bool × Int) : Ex → Prop
 | .mk k _ _ s l => (k = 2 → varOk cx nv i (rs s)) ∧ (k = 3 → 0 ≤ (rs s).2 ∧ (rs s).2 < na ∧ 1 ≤ l.length) ∧ (k = 4 → callOk cx i (rs s) l.length) ∧ (k = 7 → 1 ≤ l.length) ∧ (k ≠ 1 → k ≠ 2 → k ≠ 3 → k ≠ 4 → k ≠ 5 → k ≠ 7 → 2 ≤ l.length) ∧ wfEs cx nv na i rs l
def wfEs (cx : Cx) (nv na i : Nat) (rs : Str → Bool × Int) : List Ex → Prop
 | [] => True
 | e :: l => wfE cx nv na i rs e ∧ wfEs cx nv na i rs l
end
mutual
def wfS (cx : Cx) (nv na i : Nat) (rs : Str → Bool × Int) : Sm → Prop
 | .mk k s l t u => (k = 1 → varOk cx nv i (rs s)) ∧ (k = 2 → 0 ≤ (rs s).2 ∧ (rs s).2 < na ∧ 2 ≤ l.length) ∧ (k = 6 → callOk cx i (rs s) l.length) ∧ (k = 1 ∨ k = 3 ∨ k = 4 ∨ k = 5 → 1 ≤ l.length) ∧ wfEs cx nv na i rs l ∧ wfSs cx nv na i rs t ∧ wfSs cx nv na i rs u
def wfSs (cx : Cx) (nv na i : Nat) (rs : Str → Bool × Int) : List Sm → Prop
 | [] => True
 | e :: l => wfS cx nv na i rs e ∧ wfSs cx nv na i rs l
end
theorem wfEs_get {cx : Cx} {nv na i : Nat} {rs : Str → Bool × Int} : ∀ {l : List Ex}, wfEs cx nv na i rs l → ∀ {j : Nat} {e : Ex}, l[j]? = some e → wfE cx nv na i rs e ∧ e.sz ≤ szE l
 | [], _, j, e, h => by simp at h
 | x :: l, hw, 0, e, h => by
   simp only [wfEs] at hw
   simp only [List.getElem?_cons_zero, Option.some.injEq] at h
   subst h
   exact ⟨hw.1, by simp only [szE]; omega⟩
 | x :: l, hw, j + 1, e, h => by
   simp only [wfEs] at hw
   simp only [List.getElem?_cons_succ] at h
   have := wfEs_get hw.2 h
   exact ⟨this.1, by simp only [szE]; omega⟩
structure Fm (nv na t : Nat) (s : RS) : Prop where
 v : s.vars.length = nv
 a : s.arrs.length = na
 t : t ≤ s.ticks
theorem Fm.self {nv na t : Nat} {s : RS} (h : Fm nv na t s) : Fm nv na s.ticks s := ⟨h.v, h.a, Nat.le_refl _⟩
theorem Fm.trans {nv na t t' : Nat} {s : RS} (ht : t ≤ t') (h : Fm nv na t' s) : Fm nv na t s := ⟨h.v, h.a, Nat.le_trans ht h.t⟩
def bodyT (cx : Cx) (nv na j : Nat) : Prop := ∀ f, cx.funs[j]? = some f → ∀ (ow : List Int) (st : RS), ow.length = f.words → st.vars.length = nv → st.arrs.length = na →
 Tot (fun n => evL cx n f.res ow f.body st) (fun _ s => Fm nv na st.ticks s)
theorem tot_none {α : Type} {f : Nat → Option (Rz α)} {P : α → RS → Prop} (c : Prop) [Decidable c] (hc : c) {y : Nat → Option (Rz α)} (h : Tot f P) : Tot (fun n => if c then f n else y n) P := Tot.ite (fun _ => h) (fun h => absurd hc h)
section
variable {cx : Cx} {nv na i : Nat} {f : Cf} (hf : cx.funs[i]? = some f) (hb : ∀ j, j < i → bodyT cx nv na j)
include hf hb
theorem totE (N : Nat) : (∀ e : Ex, e.sz ≤ N → wfE cx nv na i f.res e → ∀ (ow : List Int) (st : RS) (t : Nat), ow.length = f.words → Fm nv na t st → Tot (fun n => evE cx n f.res ow e st) (fun _ s => Fm nv na t s)) := by
 induction N with
 | zero => intro e he; have := e.sz_eq; omega
 | succ N ih =>
   have ihA : ∀ l : List Ex, szE l ≤ N → wfEs cx nv na i f.res l → ∀ (ow : List Int) (st : RS) (t : Nat), ow.length = f.words → Fm nv na t st → Tot (fun n => evA cx n f.res ow l st) (fun vs s => Fm nv na t s ∧ vs.length = l.length) := by
    intro l
    induction l with
    | nil => intro _ _ ow st t ho hF; exact Tot.succ (f := fun _ => some (.val [] st)) (Tot.const fun a s e => by cases e; exact ⟨hF, rfl⟩) fun n => by simp only [evA]
    | cons e l ihl =>
      intro hs hw ow st t ho hF
      simp only [szE] at hs
      simp only [wfEs] at hw
      refine Tot.succ (f := fun n => bindR (evE cx n f.res ow e st) fun v st => bindR (evA cx n f.res ow l st) fun vs st => some (.val (v :: vs) st)) ?_ fun n => by simp only [evA]
      refine Tot.bind (ih e (by omega) hw.1 ow st t ho hF) (mE _ _ _ _ _) (fun a s => Mono.bind (mA _ _ _ _ _) fun _ _ => Mono.const _) fun a s h1 => ?_
      refine Tot.bind (ihl (by omega) hw.2 ow s t ho h1) (mA _ _ _ _ _) (fun _ _ => Mono.const _) fun vs s2 h2 => ?_
      exact Tot.const fun a s e => by cases e; exact ⟨h2.1, by simp [h2.2]⟩
   rintro ⟨k, o, m, s, l⟩ he hw ow st t ho hF
   simp only [wfE] at hw
   obtain ⟨w2, w3, w4, w7, w6, wl⟩ := hw
   simp only [Ex.sz] at he
   have kid : ∀ {j : Nat} {a : Ex}, l[j]? = some a → ∀ (st : RS) (t : Nat), Fm nv na t st → Tot (fun n => evE cx n f.res ow a st) (fun _ s => Fm nv na t s) := fun {j a} hj st t hF => by
    have := wfEs_get wl hj
    exact ih a (by omega) this.1 ow st t ho hF
   have get : ∀ {j : Nat}, j < l.length → ∃ a, l[j]? = some a := fun {j} h => ⟨l[j], List.getElem?_eq_getElem h⟩
   refine Tot.succ (f := fun n => evE cx (n + 1) f.res ow (.mk k o m s l) st) ?_ fun n => rfl
   simp only [evE]
   refine Tot.ite (fun h1 => Tot.const fun a s e => by cases e; exact hF) fun h1 => Tot.ite (fun h2 => ?_) fun h2 => Tot.ite (fun h3 => ?_) fun h3 => Tot.ite (fun h4 => ?_) fun h4 => Tot.ite (fun h5 => Tot.const fun a s e => ?_) fun h5 => ?_
   ·obtain ⟨q1, q2, q3⟩ := w2 h2
    have : ∃ v, lookR (f.res s) ow st = some v := by
     unfold lookR
     rw [if_pos q1]
     cases hb : (f.res s).1 with
     | true =>
       have := q2 hb f hf
       exact ⟨_, List.getElem?_eq_getElem (by omega)⟩
     | false =>
       have := q3 hb
       have := hF.v
       exact ⟨_, List.getElem?_eq_getElem (by omega)⟩
    obtain ⟨v, hv⟩ := this
    rw [hv]
    exact Tot.const fun a s e => by cases e; exact hF
   ·obtain ⟨q1, q2, q3⟩ := w3 h3
    obtain ⟨a, ha⟩ := get (j := 0) (by omega)
    simp only [ha]
    refine Tot.bind (kid ha st t hF) (mE _ _ _ _ _) (fun _ _ => Mono.const _) fun x s1 h6 => ?_
    rw [if_pos q1]
    have hl : (f.res s).2.toNat < s1.arrs.length := by have := h6.a; omega
    unfold atR
    rw [List.getElem?_eq_getElem hl]
    simp only
    generalize hr : s1.arrs[(f.res s).2.toNat] = r
    by_cases hx : x.toNat < r.length
    ·simp only [hx, if_true, bindR, List.getElem?_eq_getElem hl, hr, Option.bind_some]
     rw [List.getElem?_eq_getElem hx]
     exact Tot.const fun a s e => by cases e; exact h6
    ·simp only [hx, if_false, bindR]
     exact Tot.const fun a s e => by cases e
   ·obtain ⟨q1, q2, g, hg, q3⟩ := w4 h4
    refine Tot.succ (f := fun n => evC cx (n + 1) f.res ow (f.res s).2 l st) ?_ fun n => rfl
    simp only [evC, if_neg (show ¬ (f.res s).2 < 0 by omega), hg, if_neg (show ¬ g.words < l.length by omega)]
    refine Tot.bind (ihA l (by omega) wl ow st t ho hF) (mA _ _ _ _ _) (fun a s => Mono.bind (Mono.const _) fun _ _ => Mono.bind (mL _ _ _ _ _) fun _ _ => Mono.const _) fun vs s1 h6 => ?_
    refine Tot.bind (P := fun _ s => Fm nv na t s) (Tot.const fun a s e => ?_) (Mono.const _) (fun _ _ => Mono.bind (mL _ _ _ _ _) fun _ _ => Mono.const _) fun _ s2 h7 => ?_
    ·unfold tickR at e
     split at e
     ·cases e
     ·cases e; exact ⟨h6.1.v, h6.1.a, by have := h6.1.t; simp only; omega⟩
    ·refine Tot.bind (hb _ (by omega) g hg _ s2 (by simp [h6.2]; omega) h7.v h7.a) (mL _ _ _ _ _) (fun _ _ => Mono.const _) fun r s3 h8 => ?_
     exact Tot.const fun a s e => by cases e; exact h8.trans h7.t
   ·unfold getR at e
    split at e
    ·cases e; exact ⟨hF.v, hF.a, hF.t⟩
    ·cases e; exact hF
   ·have h0 : 1 ≤ l.length := by
     by_cases h7 : k = 7
     ·exact w7 h7
     ·have := w6 h1 h2 h3 h4 h5 h7; omega
    obtain ⟨a, ha⟩ := get (j := 0) (by omega)
    simp only [ha]
    refine Tot.ite (fun h7 => ?_) fun h7 => ?_
    ·refine Tot.bind (kid ha st t hF) (mE _ _ _ _ _) (fun _ _ => Mono.const _) fun x s1 h6 => ?_
     exact Tot.const fun a s e => by cases e; exact h6
    ·obtain ⟨b, hb'⟩ := get (j := 1) (by have := w6 h1 h2 h3 h4 h5 h7; omega)
     simp only [hb']
     refine Tot.ite (fun h6 => ?_) fun h6 => ?_
     ·refine Tot.bind (kid ha st t hF) (mE _ _ _ _ _) (fun _ _ => Mono.bind (mE _ _ _ _ _) fun _ _ => Mono.const _) fun x s1 h8 => ?_
      refine Tot.bind (kid hb' s1 t h8) (mE _ _ _ _ _) (fun _ _ => Mono.const _) fun y s2 h9 => ?_
      split
      ·exact Tot.const fun a s e => by cases e; exact h9
      ·exact Tot.const fun a s e => by cases e
     ·refine Tot.bind (kid ha st t hF) (mE _ _ _ _ _) (fun _ _ => Mono.ite (Mono.const _) (mE _ _ _ _ _)) fun x s1 h8 => ?_
      exact Tot.ite (fun _ => Tot.const fun a s e => by cases e; exact h8) fun _ => kid hb' s1 t h8
end
end Go.Al
namespace Go.Al
theorem wfSs_get {cx : Cx} {nv na i : Nat} {rs : Str → Bool × Int} : ∀ {l : List Sm}, wfSs cx nv na i rs l → ∀ {j : Nat} {e : Sm}, l[j]? = some e → wfS cx nv na i rs e ∧ e.sz ≤ szS l
 | [], _, j, e, h => by simp at h
 | x :: l, hw, 0, e, h => by
   simp only [wfSs] at hw
   simp only [List.getElem?_cons_zero, Option.some.injEq] at h
   subst h
   exact ⟨hw.1, by simp only [szS]; omega⟩
 | x :: l, hw, j + 1, e, h => by
   simp only [wfSs] at hw
   simp only [List.getElem?_cons_succ] at h
   have := wfSs_get hw.2 h
   exact ⟨this.1, by simp only [szS]; omega⟩
structure Fs (nv na w t : Nat) (r : Option Int × List Int) (s : RS) : Prop where
 f : Fm nv na t s
 w : r.2.length = w
section
variable {cx : Cx} {nv na i : Nat} {f : Cf} (hf : cx.funs[i]? = some f) (hb : ∀ j, j < i → bodyT cx nv na j)
include hf hb
theorem totA : ∀ l : List Ex, wfEs cx nv na i f.res l → ∀ (ow : List Int) (st : RS) (t : Nat), ow.length = f.words → Fm nv na t st → Tot (fun n => evA cx n f.res ow l st) (fun vs s => Fm nv na t s ∧ vs.length = l.length) := by
 intro l
 induction l with
 | nil => intro _ ow st t ho hF; exact Tot.succ (f := fun _ => some (.val [] st)) (Tot.const fun a s e => by cases e; exact ⟨hF, rfl⟩) fun n => by simp only [evA]
 | cons e l ihl =>
   intro hw ow st t ho hF
   simp only [wfEs] at hw
   refine Tot.succ (f := fun n => bindR (evE cx n f.res ow e st) fun v st => bindR (evA cx n f.res ow l st) fun vs st => some (.val (v :: vs) st)) ?_ fun n => by simp only [evA]
   refine Tot.bind (totE hf hb e.sz e (Nat.le_refl _) hw.1 ow st t ho hF) (mE _ _ _ _ _) (fun a s => Mono.bind (mA _ _ _ _ _) fun _ _ => Mono.const _) fun a s h1 => ?_
   refine Tot.bind (ihl hw.2 ow s t ho h1) (mA _ _ _ _ _) (fun _ _ => Mono.const _) fun vs s2 h2 => ?_
   exact Tot.const fun a s e => by cases e; exact ⟨h2.1, by simp [h2.2]⟩
theorem totC (l : List Ex) (wl : wfEs cx nv na i f.res l) {p : Bool × Int} (hc : callOk cx i p l.length) (ow : List Int) (st : RS) (t : Nat) (ho : ow.length = f.words) (hF : Fm nv na t st) : Tot (fun n => evC cx n f.res ow p.2 l st) (fun _ s => Fm nv na t s) := by
 obtain ⟨q1, q2, g, hg, q3⟩ := hc
 refine Tot.succ (f := fun n => evC cx (n + 1) f.res ow p.2 l st) ?_ fun n => rfl
 simp only [evC, if_neg (show ¬ p.2 < 0 by omega), hg, if_neg (show ¬ g.words < l.length by omega)]
 refine Tot.bind (totA hf hb l wl ow st t ho hF) (mA _ _ _ _ _) (fun a s => Mono.bind (Mono.const _) fun _ _ => Mono.bind (mL _ _ _ _ _) fun _ _ => Mono.const _) fun vs s1 h6 => ?_
 refine Tot.bind (P := fun _ s => Fm nv na t s) (Tot.const fun a s e => ?_) (Mono.const _) (fun _ _ => Mono.bind (mL _ _ _ _ _) fun _ _ => Mono.const _) fun _ s2 h7 => ?_
 ·unfold tickR at e
  split at e
  ·cases e
  ·cases e; exact ⟨h6.1.v, h6.1.a, by have := h6.1.t; simp only; omega⟩
 ·refine Tot.bind (hb _ (by omega) g hg _ s2 (by simp [h6.2]; omega) h7.v h7.a) (mL _ _ _ _ _) (fun _ _ => Mono.const _) fun r s3 h8 => ?_
  exact Tot.const fun a s e => by cases e; exact h8.trans h7.t
theorem totS (M : Nat) : ∀ N : Nat, (∀ e : Sm, e.sz ≤ N → wfS cx nv na i f.res e → ∀ (ow : List Int) (st : RS), ow.length = f.words → st.vars.length = nv → st.arrs.length = na → cx.fuel - st.ticks ≤ M → Tot (fun n => evS cx n f.res ow e st) (Fs nv na f.words st.ticks)) ∧
  (∀ l : List Sm, szS l < N → wfSs cx nv na i f.res l → ∀ (ow : List Int) (st : RS), ow.length = f.words → st.vars.length = nv → st.arrs.length = na → cx.fuel - st.ticks ≤ M → Tot (fun n => evL cx n f.res ow l st) (Fs nv na f.words st.ticks)) := by
 induction M using Nat.strongRecOn with
 | _ M ihM =>
 intro N
 induction N with
 | zero => exact ⟨fun e he => by have := e.sz_eq; omega, fun l hl => by omega⟩
 | succ N ih =>
   obtain ⟨ihS, ihL⟩ := ih
   have fself : ∀ st : RS, st.vars.length = nv → st.arrs.length = na → Fm nv na st.ticks st := fun st h1 h2 => ⟨h1, h2, Nat.le_refl _⟩
   have one : ∀ e : Sm, e.sz ≤ N + 1 → wfS cx nv na i f.res e → ∀ (ow : List Int) (st : RS), ow.length = f.words → st.vars.length = nv → st.arrs.length = na → cx.fuel - st.ticks ≤ M → Tot (fun n => evS cx n f.res ow e st) (Fs nv na f.words st.ticks) := by
    rintro ⟨k, s, l, t, u⟩ he hw ow st ho hv ha hM
    simp only [wfS] at hw
    obtain ⟨w1, w2, w6, wk, wl, wt, wu⟩ := hw
    simp only [Sm.sz] at he
    have hF := fself st hv ha
    have kid : ∀ {j : Nat} {a : Ex}, l[j]? = some a → ∀ (st : RS) (t : Nat), Fm nv na t st → Tot (fun n => evE cx n f.res ow a st) (fun _ s => Fm nv na t s) := fun {j a} hj st t hF => by
     have := wfEs_get wl hj
     exact totE hf hb a.sz a (Nat.le_refl _) this.1 ow st t ho hF
    have get : ∀ {j : Nat}, j < l.length → ∃ a, l[j]? = some a := fun {j} h => ⟨l[j], List.getElem?_eq_getElem h⟩
    refine Tot.succ (f := fun n => evS cx (n + 1) f.res ow (.mk k s l t u) st) ?_ fun n => rfl
    simp only [evS]
    refine Tot.ite (fun h1 => ?_) fun h1 => Tot.ite (fun h2 => ?_) fun h2 => Tot.ite (fun h3 => ?_) fun h3 => Tot.ite (fun h4 => ?_) fun h4 => Tot.ite (fun h5 => ?_) fun h5 => Tot.ite (fun h6 => ?_) fun h6 => Tot.ite (fun h7 => ?_) fun h7 => Tot.const fun a s e => by cases e; exact ⟨hF, ho⟩
    ·obtain ⟨a, ha'⟩ := get (j := 0) (by have := wk (.inl h1); omega)
     simp only [ha']
     refine Tot.bind (kid ha' st st.ticks hF) (mE _ _ _ _ _) (fun _ _ => Mono.const _) fun v s1 h8 => ?_
     obtain ⟨q1, q2, q3⟩ := w1 h1
     unfold setR
     rw [if_pos q1]
     cases hb : (f.res s).1 with
     | true =>
       have := q2 hb f hf
       rw [if_pos rfl, if_pos (by omega)]
       exact Tot.const fun a s e => by cases e; exact ⟨h8, by simp [ho]⟩
     | false =>
       have := q3 hb
       have := h8.v
       rw [if_neg (by simp), if_pos (by omega)]
       exact Tot.const fun a s e => by cases e; exact ⟨⟨by simp [h8.v], h8.a, h8.t⟩, ho⟩
    ·obtain ⟨q1, q2, q3⟩ := w2 h2
     obtain ⟨a, ha'⟩ := get (j := 0) (by omega)
     obtain ⟨b, hb'⟩ := get (j := 1) (by omega)
     simp only [ha', hb']
     refine Tot.bind (kid ha' st st.ticks hF) (mE _ _ _ _ _) (fun _ _ => Mono.bind (mE _ _ _ _ _) fun _ _ => Mono.const _) fun x s1 h8 => ?_
     refine Tot.bind (kid hb' s1 st.ticks h8) (mE _ _ _ _ _) (fun _ _ => Mono.const _) fun v s2 h9 => ?_
     rw [if_pos q1]
     have hl : (f.res s).2.toNat < s2.arrs.length := by have := h9.a; omega
     unfold atR
     rw [List.getElem?_eq_getElem hl]
     simp only
     split
     ·simp only [bindR]
      exact Tot.const fun a s e => by cases e; exact ⟨⟨h9.v, by simp [storeR, h9.a], h9.t⟩, ho⟩
     ·simp only [bindR]
      exact Tot.const fun a s e => by cases e
    ·obtain ⟨a, ha'⟩ := get (j := 0) (by have := wk (.inr (.inl h3)); omega)
     simp only [ha']
     refine Tot.bind (kid ha' st st.ticks hF) (mE _ _ _ _ _) (fun _ _ => Mono.const _) fun v s1 h8 => ?_
     unfold putR
     split
     ·simp only [bindR]
      exact Tot.const fun a s e => by cases e
     ·simp only [bindR]
      exact Tot.const fun a s e => by cases e; exact ⟨⟨h8.v, h8.a, h8.t⟩, ho⟩
    ·obtain ⟨a, ha'⟩ := get (j := 0) (by have := wk (.inr (.inr (.inl h4))); omega)
     simp only [ha']
     refine Tot.bind (kid ha' st st.ticks hF) (mE _ _ _ _ _) (fun _ _ => Mono.ite (mL _ _ _ _ _) (mL _ _ _ _ _)) fun v s1 h8 => ?_
     have := h8.t
     have q1 := (wfEs_get wl ha').2
     have q2 := a.sz_eq
     exact Tot.ite (fun _ => (ihL u (by omega) wu ow s1 ho h8.v h8.a (by have := h8.t; omega)).mono fun r s h => ⟨h.f.trans h8.t, h.w⟩) fun _ => (ihL t (by omega) wt ow s1 ho h8.v h8.a (by have := h8.t; omega)).mono fun r s h => ⟨h.f.trans h8.t, h.w⟩
    ·obtain ⟨a, ha'⟩ := get (j := 0) (by have := wk (.inr (.inr (.inr h5))); omega)
     simp only [ha']
     refine Tot.succ (f := fun n => evW cx (n + 1) f.res ow a t st) ?_ fun n => rfl
     simp only [evW]
     refine Tot.bind (P := fun _ s => s.vars.length = nv ∧ s.arrs.length = na ∧ st.ticks < s.ticks ∧ cx.fuel - s.ticks < M) (Tot.const fun a s e => ?_) (Mono.const _) (fun _ _ => Mono.bind (mE _ _ _ _ _) fun _ _ => Mono.ite (Mono.const _) (Mono.bind (mL _ _ _ _ _) fun r _ => ?_)) fun _ s1 ⟨g1, g2, g3, g4⟩ => ?_
     ·unfold tickR at e
      split at e
      ·cases e
      ·cases e; exact ⟨hv, ha, by simp, by simp only; omega⟩
     ·cases r.1 with
      | some v => exact Mono.const _
      | none => exact mW _ _ _ _ _ _
     refine Tot.bind (kid ha' s1 s1.ticks (fself s1 g1 g2)) (mE _ _ _ _ _) (fun _ _ => Mono.ite (Mono.const _) (Mono.bind (mL _ _ _ _ _) fun r _ => ?_)) fun x s2 h8 => ?_
     ·cases r.1 with
      | some v => exact Mono.const _
      | none => exact mW _ _ _ _ _ _
     have h8t := h8.t
     refine Tot.ite (fun _ => Tot.const fun a s e => by cases e; exact ⟨h8.trans (by omega), ho⟩) fun _ => ?_
     refine Tot.bind ((ihM (cx.fuel - s2.ticks) (by omega) (szS t + 1)).2 t (by omega) wt ow s2 ho h8.v h8.a (Nat.le_refl _)) (mL _ _ _ _ _) (fun r _ => ?_) fun r s3 h9 => ?_
     ·cases r.1 with
      | some v => exact Mono.const _
      | none => exact mW _ _ _ _ _ _
     have h9t := h9.f.t
     cases hr : r.1 with
     | some v => exact Tot.const fun a s e => by cases e; exact ⟨h9.f.trans (by omega), h9.w⟩
     | none =>
       have hsz : Sm.sz (.mk 5 s [a] t []) ≤ (Sm.mk 5 s [a] t []).sz := Nat.le_refl _
       have := (ihM (cx.fuel - s3.ticks) (by omega) (Sm.mk 5 s [a] t []).sz).1 (.mk 5 s [a] t []) hsz (by
        simp only [wfS, wfEs, wfSs]
        exact ⟨fun e => absurd e (by decide), fun e => absurd e (by decide), fun e => absurd e (by decide), fun _ => by simp, ⟨(wfEs_get wl ha').1, trivial⟩, wt, trivial⟩) r.2 s3 h9.w h9.f.v h9.f.a (Nat.le_refl _)
       obtain ⟨n, o, e1, e2⟩ := this
       cases n with
       | zero => simp [evS] at e1
       | succ n =>
         simp [evS] at e1
         exact ⟨n, o, e1, fun r' s' e => by have := e2 r' s' e; exact ⟨this.f.trans (by omega), this.w⟩⟩
    ·refine Tot.bind (totC hf hb l wl (w6 h6) ow st st.ticks ho hF) (mC _ _ _ _ _ _) (fun _ _ => Mono.const _) fun v s1 h8 => ?_
     exact Tot.const fun a s e => by cases e; exact ⟨h8, ho⟩
    ·cases hl : l[0]? with
     | none => exact Tot.const fun a s e => by cases e; exact ⟨hF, ho⟩
     | some a =>
       simp only
       refine Tot.bind (kid hl st st.ticks hF) (mE _ _ _ _ _) (fun _ _ => Mono.const _) fun v s1 h8 => ?_
       exact Tot.const fun a s e => by cases e; exact ⟨h8, ho⟩
   refine ⟨one, ?_⟩
   intro l
   induction l with
   | nil =>
     intro _ _ ow st ho hv ha _
     exact Tot.succ (f := fun _ => some (.val (none, ow) st)) (Tot.const fun a s e => by cases e; exact ⟨fself st hv ha, ho⟩) fun n => by simp only [evL]
   | cons e l ihl =>
     intro hs hw ow st ho hv ha hM
     simp only [szS] at hs
     simp only [wfSs] at hw
     refine Tot.succ (f := fun n => evL cx (n + 1) f.res ow (e :: l) st) ?_ fun n => rfl
     simp only [evL]
     refine Tot.bind (one e (by omega) hw.1 ow st ho hv ha hM) (mS _ _ _ _ _) (fun r _ => ?_) fun r s1 h1 => ?_
     ·cases r.1 with
      | some v => exact Mono.const _
      | none => exact mL _ _ _ _ _
     have h1t := h1.f.t
     cases hr : r.1 with
     | some v => exact Tot.const fun a s e => by cases e; exact ⟨h1.f, h1.w⟩
     | none =>
       exact (ihl (by omega) hw.2 r.2 s1 h1.w h1.f.v h1.f.a (by omega)).mono fun r s h => ⟨h.f.trans h1.f.t, h.w⟩
end
theorem bodies {cx : Cx} {nv na : Nat} (h : ∀ i f, cx.funs[i]? = some f → wfSs cx nv na i f.res f.body) (j : Nat) : bodyT cx nv na j := by
 induction j using Nat.strongRecOn with
 | _ j ih =>
   intro f hf ow st ho hv ha
   exact ((totS hf ih (cx.fuel - st.ticks) (szS f.body + 1)).2 f.body (by omega) (h j f hf) ow st ho hv ha (Nat.le_refl _)).mono fun r s h => h.f
def Cx.main (cx : Cx) : Option Cf := cx.funs[cx.funs.length - 1]?
def RS.init (nv : Nat) (sizes : List Nat) : RS := ⟨List.replicate nv 0, sizes.map fun n => List.replicate n 0, 0, [], 0⟩
def endR {α : Type} : Rz α → Int × Str × Nat
 | .val _ s => (1, s.out, s.ticks)
 | .fin e s => (e, s.out, s.ticks)
def runR (cx : Cx) (n nv : Nat) (sizes : List Nat) : Option (Int × Str × Nat) := cx.main.bind fun f => (evL cx n f.res (List.replicate f.words 0) f.body (RS.init nv sizes)).map endR
theorem run_total {cx : Cx} {nv : Nat} {sizes : List Nat} (h0 : cx.funs ≠ []) (h : ∀ i f, cx.funs[i]? = some f → wfSs cx nv sizes.length i f.res f.body) : ∃ n r, runR cx n nv sizes = some r := by
 have hl : cx.funs.length - 1 < cx.funs.length := by
  cases hc : cx.funs with
  | nil => exact absurd hc h0
  | cons a l => simp
 obtain ⟨n, r, hr, _⟩ := bodies h (cx.funs.length - 1) _ (List.getElem?_eq_getElem hl) (List.replicate (cx.funs[cx.funs.length - 1]).words 0) (RS.init nv sizes) (by simp) (by simp [RS.init]) (by simp [RS.init])
 refine ⟨n, endR r, ?_⟩
 simp only [runR, Cx.main, List.getElem?_eq_getElem hl, Option.bind_some]
 rw [show evL cx n _ _ _ _ = some r from hr]
 rfl
theorem run_deep {cx : Cx} {n m nv : Nat} {sizes : List Nat} (hm : n ≤ m) {r} (h : runR cx n nv sizes = some r) : runR cx m nv sizes = some r := by
 unfold runR at *
 cases hc : cx.main with
 | none => rw [hc] at h; cases h
 | some f =>
   rw [hc] at h
   simp only [Option.bind_some, Option.map_eq_some_iff] at h ⊢
   obtain ⟨x, hx, e⟩ := h
   exact ⟨x, evL_deep hm hx, e⟩
theorem run_one {cx : Cx} {n m nv : Nat} {sizes : List Nat} {r r'} (h : runR cx n nv sizes = some r) (h' : runR cx m nv sizes = some r') : r = r' := by
 have a := run_deep (Nat.le_max_left n m) h
 have b := run_deep (Nat.le_max_right n m) h'
 rw [a] at b
 exact Option.some.inj b
end Go.Al
namespace Go.Al
structure Gw (fuel : Nat) (s s' : RS) : Prop where
 out : s.out <+: s'.out
 t : s.ticks ≤ s'.ticks
 f : s.ticks ≤ fuel → s'.ticks ≤ fuel
theorem Gw.refl (fuel : Nat) (s : RS) : Gw fuel s s := ⟨List.prefix_refl _, Nat.le_refl _, fun h => h⟩
theorem Gw.trans {fuel : Nat} {s s1 s2 : RS} (h : Gw fuel s s1) (h' : Gw fuel s1 s2) : Gw fuel s s2 := ⟨h.out.trans h'.out, Nat.le_trans h.t h'.t, fun x => h'.f (h.f x)⟩
def GwO {α : Type} (fuel : Nat) (s : RS) (x : Option (Rz α)) : Prop := ∀ o, x = some o → Gw fuel s o.st
theorem GwO.none {α : Type} (fuel : Nat) (s : RS) : GwO fuel s (none : Option (Rz α)) := fun _ h => by cases h
theorem GwO.val {α : Type} {fuel : Nat} {s s' : RS} (h : Gw fuel s s') (a : α) : GwO fuel s (some (.val a s')) := fun _ e => by cases e; exact h
theorem GwO.fin {α : Type} {fuel : Nat} {s s' : RS} (h : Gw fuel s s') (a : Int) : GwO fuel s (some (.fin a s' : Rz α)) := fun _ e => by cases e; exact h
theorem GwO.bind {α β : Type} {fuel : Nat} {s : RS} {x : Option (Rz α)} {f : α → RS → Option (Rz β)} (h : GwO fuel s x) (hf : ∀ a s', GwO fuel s' (f a s')) : GwO fuel s (bindR x f) := fun o ho => by
 cases x with
 | none => cases ho
 | some r =>
   have h1 := h r rfl
   cases r with
   | val a s' => exact h1.trans (hf a s' o ho)
   | fin e s' => cases ho; exact h1
theorem GwO.ite {α : Type} {fuel : Nat} {s : RS} {c : Prop} [Decidable c] {x y : Option (Rz α)} (h : GwO fuel s x) (h' : GwO fuel s y) : GwO fuel s (if c then x else y) := by
 split
 ·exact h
 ·exact h'
theorem tick_gw (cx : Cx) (st : RS) : GwO cx.fuel st (some (tickR cx st)) := by
 unfold tickR
 split
 ·exact GwO.fin (Gw.refl _ _) _
 ·exact GwO.val (by exact ⟨List.prefix_refl _, Nat.le_succ _, fun _ => by show st.ticks + 1 ≤ _; omega⟩) _
theorem get_gw (cx : Cx) (fuel : Nat) (st : RS) : GwO fuel st (some (getR cx st)) := by
 unfold getR
 split
 ·exact GwO.val (by exact ⟨List.prefix_refl _, Nat.le_refl _, fun h => h⟩) _
 ·exact GwO.val (Gw.refl _ _) _
theorem put_gw (fuel : Nat) (v : Int) (st : RS) : GwO fuel st (some (putR v st)) := by
 unfold putR
 split
 ·exact GwO.fin (Gw.refl _ _) _
 ·exact GwO.val (by exact ⟨List.prefix_append _ _, Nat.le_refl _, fun h => h⟩) _
theorem at_gw (fuel : Nat) (i x : Int) (st : RS) : GwO fuel st (atR i x st) := by
 unfold atR
 split
 ·exact GwO.none _ _
 ·split
  ·exact GwO.val (Gw.refl _ _) _
  ·exact GwO.fin (Gw.refl _ _) _
theorem set_gw (fuel : Nat) (p : Bool × Int) (v : Int) (ow : List Int) (st : RS) : GwO fuel st ((setR p v ow st).map fun r => Rz.val ((none : Option Int), r.1) r.2) := by
 unfold setR
 split
 ·split
  ·split
   ·exact GwO.val (Gw.refl _ _) _
   ·exact GwO.none _ _
  ·split
   ·exact GwO.val (by exact ⟨List.prefix_refl _, Nat.le_refl _, fun h => h⟩) _
   ·exact GwO.none _ _
 ·exact GwO.none _ _
structure Grow (cx : Cx) (n : Nat) : Prop where
 E : ∀ rs ow e st, GwO cx.fuel st (evE cx n rs ow e st)
 A : ∀ rs ow l st, GwO cx.fuel st (evA cx n rs ow l st)
 C : ∀ rs ow i l st, GwO cx.fuel st (evC cx n rs ow i l st)
 S : ∀ rs ow e st, GwO cx.fuel st (evS cx n rs ow e st)
 L : ∀ rs ow l st, GwO cx.fuel st (evL cx n rs ow l st)
 W : ∀ rs ow c t st, GwO cx.fuel st (evW cx n rs ow c t st)
theorem grow (cx : Cx) (n : Nat) : Grow cx n := by
 induction n with
 | zero =>
   constructor
   all_goals
    intros
    intro o h
    simp [evE, evA, evC, evS, evL, evW] at h
 | succ n ih =>
   obtain ⟨hE, hA, hC, hS, hL, hW⟩ := ih
   constructor
   ·rintro rs ow ⟨k, o, m, s, l⟩ st
    simp only [evE]
    refine GwO.ite (GwO.val (Gw.refl _ _) _) (GwO.ite ?_ (GwO.ite ?_ (GwO.ite (hC _ _ _ _ _) (GwO.ite (get_gw _ _ _) ?_))))
    ·cases lookR (rs s) ow st with
     | none => exact GwO.none _ _
     | some v => exact GwO.val (Gw.refl _ _) _
    ·cases l[0]? with
     | none => exact GwO.none _ _
     | some a =>
       refine GwO.bind (hE _ _ _ _) fun x st => GwO.ite (GwO.bind (at_gw _ _ _ _) fun j st => ?_) (GwO.none _ _)
       cases (st.arrs[(rs s).2.toNat]?).bind fun l => l[j]? with
       | none => exact GwO.none _ _
       | some v => exact GwO.val (Gw.refl _ _) _
    ·cases l[0]? with
     | none => exact GwO.none _ _
     | some a =>
       refine GwO.ite (GwO.bind (hE _ _ _ _) fun _ _ => GwO.val (Gw.refl _ _) _) ?_
       cases l[1]? with
       | none => exact GwO.none _ _
       | some b =>
         refine GwO.ite (GwO.bind (hE _ _ _ _) fun _ _ => GwO.bind (hE _ _ _ _) fun _ _ => GwO.ite (GwO.val (Gw.refl _ _) _) (GwO.fin (Gw.refl _ _) _)) ?_
         exact GwO.bind (hE _ _ _ _) fun _ _ => GwO.ite (GwO.val (Gw.refl _ _) _) (hE _ _ _ _)
   ·intro rs ow l st
    cases l with
    | nil => simp only [evA]; exact GwO.val (Gw.refl _ _) _
    | cons e l =>
      simp only [evA]
      exact GwO.bind (hE _ _ _ _) fun _ _ => GwO.bind (hA _ _ _ _) fun _ _ => GwO.val (Gw.refl _ _) _
   ·intro rs ow i l st
    simp only [evC]
    refine GwO.ite (GwO.none _ _) ?_
    cases cx.funs[i.toNat]? with
    | none => exact GwO.none _ _
    | some f => exact GwO.ite (GwO.none _ _) (GwO.bind (hA _ _ _ _) fun _ _ => GwO.bind (tick_gw _ _) fun _ _ => GwO.bind (hL _ _ _ _) fun _ _ => GwO.val (Gw.refl _ _) _)
   ·rintro rs ow ⟨k, s, l, t, u⟩ st
    simp only [evS]
    refine GwO.ite ?_ (GwO.ite ?_ (GwO.ite ?_ (GwO.ite ?_ (GwO.ite ?_ (GwO.ite ?_ (GwO.ite ?_ (GwO.val (Gw.refl _ _) _)))))))
    ·cases l[0]? with
     | none => exact GwO.none _ _
     | some a => exact GwO.bind (hE _ _ _ _) fun _ _ => set_gw _ _ _ _ _
    ·cases l[0]? with
     | none => exact GwO.none _ _
     | some a =>
       cases l[1]? with
       | none => exact GwO.none _ _
       | some b => exact GwO.bind (hE _ _ _ _) fun _ _ => GwO.bind (hE _ _ _ _) fun _ st => GwO.ite (GwO.bind (at_gw _ _ _ _) fun _ _ => GwO.val (by exact ⟨List.prefix_refl _, Nat.le_refl _, fun h => h⟩) _) (GwO.none _ _)
    ·cases l[0]? with
     | none => exact GwO.none _ _
     | some a => exact GwO.bind (hE _ _ _ _) fun _ _ => GwO.bind (put_gw _ _ _) fun _ _ => GwO.val (Gw.refl _ _) _
    ·cases l[0]? with
     | none => exact GwO.none _ _
     | some a => exact GwO.bind (hE _ _ _ _) fun _ _ => GwO.ite (hL _ _ _ _) (hL _ _ _ _)
    ·cases l[0]? with
     | none => exact GwO.none _ _
     | some a => exact hW _ _ _ _ _
    ·exact GwO.bind (hC _ _ _ _ _) fun _ _ => GwO.val (Gw.refl _ _) _
    ·cases l[0]? with
     | none => exact GwO.val (Gw.refl _ _) _
     | some a => exact GwO.bind (hE _ _ _ _) fun _ _ => GwO.val (Gw.refl _ _) _
   ·intro rs ow l st
    cases l with
    | nil => simp only [evL]; exact GwO.val (Gw.refl _ _) _
    | cons s l =>
      simp only [evL]
      refine GwO.bind (hS _ _ _ _) fun r st => ?_
      cases r.1 with
      | some v => exact GwO.val (Gw.refl _ _) _
      | none => exact hL _ _ _ _
   ·intro rs ow c t st
    simp only [evW]
    refine GwO.bind (tick_gw _ _) fun _ st => GwO.bind (hE _ _ _ _) fun x st => GwO.ite (GwO.val (Gw.refl _ _) _) (GwO.bind (hL _ _ _ _) fun r st => ?_)
    cases r.1 with
    | some v => exact GwO.val (Gw.refl _ _) _
    | none => exact hW _ _ _ _ _
def FuO {α : Type} (F : Nat) (x y : Option (Rz α)) : Prop := ∀ o, x = some o → (match o with
 | .fin e s => (e ≠ 5 ∧ y = some o) ∨ (e = 5 ∧ F ≤ s.ticks ∧ ∀ o', y = some o' → s.out <+: o'.st.out ∧ s.ticks ≤ o'.st.ticks)
 | .val _ _ => y = some o)
section
variable {F F' : Nat}
theorem FuO.none {α : Type} (y : Option (Rz α)) : FuO F none y := fun _ h => by cases h
theorem FuO.val {α : Type} (a : α) (s : RS) : FuO F (some (.val a s)) (some (.val a s)) := fun _ h => by cases h; rfl
theorem FuO.fin {α : Type} {e : Int} (he : e ≠ 5) (s : RS) : FuO F (some (.fin e s : Rz α)) (some (.fin e s)) := fun _ h => by cases h; exact .inl ⟨he, rfl⟩
theorem FuO.same {α : Type} {x : Option (Rz α)} (h : ∀ s, x ≠ some (.fin 5 s)) : FuO F x x := fun o ho => by
 cases o with
 | val a s => exact ho
 | fin e s =>
   refine .inl ⟨fun he => ?_, ho⟩
   subst he
   exact h s ho
theorem FuO.bind {α β : Type} {x y : Option (Rz α)} {f g : α → RS → Option (Rz β)} (h : FuO F x y) (hf : ∀ a s, FuO F (f a s) (g a s)) (hg : ∀ a s, GwO F' s (g a s)) : FuO F (bindR x f) (bindR y g) := fun o ho => by
 cases x with
 | none => cases ho
 | some r =>
   have h1 := h r rfl
   cases r with
   | val a s =>
     simp only at h1
     subst h1
     exact hf a s o ho
   | fin e s =>
     cases ho
     simp only at h1 ⊢
     rcases h1 with ⟨he, rfl⟩ | ⟨he, ht, h2⟩
     ·exact .inl ⟨he, rfl⟩
     ·refine .inr ⟨he, ht, fun o' ho' => ?_⟩
      cases y with
      | none => cases ho'
      | some r' =>
        have h3 := h2 r' rfl
        cases r' with
        | val a s' =>
          have h4 := hg a s' o' ho'
          simp only [Rz.st] at h3
          exact ⟨h3.1.trans h4.out, Nat.le_trans h3.2 h4.t⟩
        | fin e s' => cases ho'; exact h3
theorem FuO.ite {α : Type} {c : Prop} [Decidable c] {x y x' y' : Option (Rz α)} (h : FuO F x x') (h' : FuO F y y') : FuO F (if c then x else y) (if c then x' else y') := by
 split
 ·exact h
 ·exact h'
end
structure More (cx cx' : Cx) (n : Nat) : Prop where
 E : ∀ rs ow e st, FuO cx.fuel (evE cx n rs ow e st) (evE cx' n rs ow e st)
 A : ∀ rs ow l st, FuO cx.fuel (evA cx n rs ow l st) (evA cx' n rs ow l st)
 C : ∀ rs ow i l st, FuO cx.fuel (evC cx n rs ow i l st) (evC cx' n rs ow i l st)
 S : ∀ rs ow e st, FuO cx.fuel (evS cx n rs ow e st) (evS cx' n rs ow e st)
 L : ∀ rs ow l st, FuO cx.fuel (evL cx n rs ow l st) (evL cx' n rs ow l st)
 W : ∀ rs ow c t st, FuO cx.fuel (evW cx n rs ow c t st) (evW cx' n rs ow c t st)
theorem tick_fu {cx cx' : Cx} (h : cx.fuel ≤ cx'.fuel) (st : RS) : FuO cx.fuel (some (tickR cx st)) (some (tickR cx' st)) := by
 intro o ho
 unfold tickR at ho
 split at ho
 ·cases ho
  refine .inr ⟨rfl, by assumption, fun o' ho' => ?_⟩
  have := tick_gw cx' st o' ho'
  exact ⟨this.out, this.t⟩
 ·cases ho
  simp only [tickR]
  rw [if_neg (by omega)]
theorem more {cx cx' : Cx} (hf : cx.fuel ≤ cx'.fuel) (hfun : cx'.funs = cx.funs) (hi : cx'.inp = cx.inp) (n : Nat) : More cx cx' n := by
 induction n with
 | zero =>
   constructor
   all_goals
    intros
    intro o h
    simp [evE, evA, evC, evS, evL, evW] at h
 | succ n ih =>
   obtain ⟨hE, hA, hC, hS, hL, hW⟩ := ih
   obtain ⟨gE, gA, gC, gS, gL, gW⟩ := grow cx' n
   have hget : ∀ st, getR cx' st = getR cx st := fun st => by simp only [getR, hi]
   have hat : ∀ i x st, FuO cx.fuel (atR i x st) (atR i x st) := fun i x st => FuO.same fun s h => by
    unfold atR at h
    split at h
    ·cases h
    ·split at h <;> cases h
   have hput : ∀ v st, FuO cx.fuel (some (putR v st)) (some (putR v st)) := fun v st => FuO.same fun s h => by
    unfold putR at h
    split at h <;> cases h
   constructor
   ·rintro rs ow ⟨k, o, m, s, l⟩ st
    simp only [evE, hget]
    refine FuO.ite (FuO.val _ _) (FuO.ite ?_ (FuO.ite ?_ (FuO.ite (hC _ _ _ _ _) (FuO.ite ?_ ?_))))
    ·cases lookR (rs s) ow st with
     | none => exact FuO.none _
     | some v => exact FuO.val _ _
    ·cases l[0]? with
     | none => exact FuO.none _
     | some a =>
       refine FuO.bind (F' := cx'.fuel) (hE _ _ _ _) (fun x st => FuO.ite (FuO.bind (F' := cx'.fuel) (hat _ _ _) (fun j st => ?_) fun j st => ?_) (FuO.none _)) fun x st => GwO.ite (GwO.bind (at_gw _ _ _ _) fun j st => ?_) (GwO.none _ _)
       all_goals cases (st.arrs[(rs s).2.toNat]?).bind fun l => l[j]?
       all_goals first | exact FuO.none _ | exact FuO.val _ _ | exact GwO.none _ _ | exact GwO.val (Gw.refl _ _) _
    ·exact FuO.same fun s h => by
      unfold getR at h
      split at h <;> cases h
    ·cases l[0]? with
     | none => exact FuO.none _
     | some a =>
       refine FuO.ite (FuO.bind (F' := cx'.fuel) (hE _ _ _ _) (fun _ _ => FuO.val _ _) fun _ _ => GwO.val (Gw.refl _ _) _) ?_
       cases l[1]? with
       | none => exact FuO.none _
       | some b =>
         refine FuO.ite (FuO.bind (F' := cx'.fuel) (hE _ _ _ _) (fun _ _ => FuO.bind (F' := cx'.fuel) (hE _ _ _ _) (fun _ _ => FuO.ite (FuO.val _ _) (FuO.fin (by decide) _)) fun _ _ => GwO.ite (GwO.val (Gw.refl _ _) _) (GwO.fin (Gw.refl _ _) _)) fun _ _ => GwO.bind (gE _ _ _ _) fun _ _ => GwO.ite (GwO.val (Gw.refl _ _) _) (GwO.fin (Gw.refl _ _) _)) ?_
         exact FuO.bind (F' := cx'.fuel) (hE _ _ _ _) (fun _ _ => FuO.ite (FuO.val _ _) (hE _ _ _ _)) fun _ _ => GwO.ite (GwO.val (Gw.refl _ _) _) (gE _ _ _ _)
   ·intro rs ow l st
    cases l with
    | nil => simp only [evA]; exact FuO.val _ _
    | cons e l =>
      simp only [evA]
      exact FuO.bind (F' := cx'.fuel) (hE _ _ _ _) (fun _ _ => FuO.bind (F' := cx'.fuel) (hA _ _ _ _) (fun _ _ => FuO.val _ _) fun _ _ => GwO.val (Gw.refl _ _) _) fun _ _ => GwO.bind (gA _ _ _ _) fun _ _ => GwO.val (Gw.refl _ _) _
   ·intro rs ow i l st
    simp only [evC, hfun]
    refine FuO.ite (FuO.none _) ?_
    cases cx.funs[i.toNat]? with
    | none => exact FuO.none _
    | some f =>
      exact FuO.ite (FuO.none _) (FuO.bind (F' := cx'.fuel) (hA _ _ _ _) (fun _ _ => FuO.bind (F' := cx'.fuel) (tick_fu hf _) (fun _ _ => FuO.bind (F' := cx'.fuel) (hL _ _ _ _) (fun _ _ => FuO.val _ _) fun _ _ => GwO.val (Gw.refl _ _) _) fun _ _ => GwO.bind (gL _ _ _ _) fun _ _ => GwO.val (Gw.refl _ _) _) fun _ _ => GwO.bind (tick_gw _ _) fun _ _ => GwO.bind (gL _ _ _ _) fun _ _ => GwO.val (Gw.refl _ _) _)
   ·rintro rs ow ⟨k, s, l, t, u⟩ st
    simp only [evS]
    refine FuO.ite ?_ (FuO.ite ?_ (FuO.ite ?_ (FuO.ite ?_ (FuO.ite ?_ (FuO.ite ?_ (FuO.ite ?_ (FuO.val _ _)))))))
    ·cases l[0]? with
     | none => exact FuO.none _
     | some a =>
       refine FuO.bind (F' := cx'.fuel) (hE _ _ _ _) (fun v st => ?_) fun _ _ => set_gw _ _ _ _ _
       cases setR (rs s) v ow st with
       | none => exact FuO.none _
       | some r => exact FuO.val _ _
    ·cases l[0]? with
     | none => exact FuO.none _
     | some a =>
       cases l[1]? with
       | none => exact FuO.none _
       | some b => exact FuO.bind (F' := cx'.fuel) (hE _ _ _ _) (fun _ _ => FuO.bind (F' := cx'.fuel) (hE _ _ _ _) (fun _ st => FuO.ite (FuO.bind (F' := cx'.fuel) (hat _ _ _) (fun _ _ => FuO.val _ _) fun _ _ => GwO.val (by exact ⟨List.prefix_refl _, Nat.le_refl _, fun h => h⟩) _) (FuO.none _)) fun _ _ => GwO.ite (GwO.bind (at_gw _ _ _ _) fun _ _ => GwO.val (by exact ⟨List.prefix_refl _, Nat.le_refl _, fun h => h⟩) _) (GwO.none _ _)) fun _ _ => GwO.bind (gE _ _ _ _) fun _ _ => GwO.ite (GwO.bind (at_gw _ _ _ _) fun _ _ => GwO.val (by exact ⟨List.prefix_refl _, Nat.le_refl _, fun h => h⟩) _) (GwO.none _ _)
    ·cases l[0]? with
     | none => exact FuO.none _
     | some a => exact FuO.bind (F' := cx'.fuel) (hE _ _ _ _) (fun _ _ => FuO.bind (F' := cx'.fuel) (hput _ _) (fun _ _ => FuO.val _ _) fun _ _ => GwO.val (Gw.refl _ _) _) fun _ _ => GwO.bind (put_gw _ _ _) fun _ _ => GwO.val (Gw.refl _ _) _
    ·cases l[0]? with
     | none => exact FuO.none _
     | some a => exact FuO.bind (F' := cx'.fuel) (hE _ _ _ _) (fun _ _ => FuO.ite (hL _ _ _ _) (hL _ _ _ _)) fun _ _ => GwO.ite (gL _ _ _ _) (gL _ _ _ _)
    ·cases l[0]? with
     | none => exact FuO.none _
     | some a => exact hW _ _ _ _ _
    ·exact FuO.bind (F' := cx'.fuel) (hC _ _ _ _ _) (fun _ _ => FuO.val _ _) fun _ _ => GwO.val (Gw.refl _ _) _
    ·cases l[0]? with
     | none => exact FuO.val _ _
     | some a => exact FuO.bind (F' := cx'.fuel) (hE _ _ _ _) (fun _ _ => FuO.val _ _) fun _ _ => GwO.val (Gw.refl _ _) _
   ·intro rs ow l st
    cases l with
    | nil => simp only [evL]; exact FuO.val _ _
    | cons s l =>
      simp only [evL]
      refine FuO.bind (F' := cx'.fuel) (hS _ _ _ _) (fun r st => ?_) fun r st => ?_
      ·cases r.1 with
       | some v => exact FuO.val _ _
       | none => exact hL _ _ _ _
      ·cases r.1 with
       | some v => exact GwO.val (Gw.refl _ _) _
       | none => exact gL _ _ _ _
   ·intro rs ow c t st
    have g3 : ∀ (r : Option Int × List Int) st, GwO cx'.fuel st (match r.1 with | some v => some (.val (some v, r.2) st) | none => evW cx' n rs r.2 c t st) := fun r st => by
     cases r.1 with
     | some v => exact GwO.val (Gw.refl _ _) _
     | none => exact gW _ _ _ _ _
    simp only [evW]
    refine FuO.bind (F' := cx'.fuel) (tick_fu hf _) (fun _ st => FuO.bind (F' := cx'.fuel) (hE _ _ _ _) (fun x st => FuO.ite (FuO.val _ _) (FuO.bind (F' := cx'.fuel) (hL _ _ _ _) (fun r st => ?_) fun r st => g3 r st)) fun _ _ => GwO.ite (GwO.val (Gw.refl _ _) _) (GwO.bind (gL _ _ _ _) g3)) fun _ _ => GwO.bind (gE _ _ _ _) fun _ _ => GwO.ite (GwO.val (Gw.refl _ _) _) (GwO.bind (gL _ _ _ _) g3)
    cases r.1 with
    | some v => exact FuO.val _ _
    | none => exact hW _ _ _ _ _
theorem run_fuel {cx cx' : Cx} (hf : cx.fuel ≤ cx'.fuel) (hfun : cx'.funs = cx.funs) (hi : cx'.inp = cx.inp) {n m nv : Nat} {sizes : List Nat} {r r' : Int × Str × Nat} (h : runR cx n nv sizes = some r) (h' : runR cx' m nv sizes = some r') :
  r.2.2 ≤ cx.fuel ∧ (r.1 ≠ 5 → r' = r) ∧ (r.1 = 5 → r.2.2 = cx.fuel ∧ r.2.1 <+: r'.2.1 ∧ cx.fuel ≤ r'.2.2) := by
 have h1 := run_deep (Nat.le_max_left n m) h
 have h2 := run_deep (Nat.le_max_right n m) h'
 have hm : cx'.main = cx.main := by simp only [Cx.main, hfun]
 unfold runR at h1 h2
 rw [hm] at h2
 cases hc : cx.main with
 | none => rw [hc] at h1; cases h1
 | some f =>
   rw [hc] at h1 h2
   simp only [Option.bind_some, Option.map_eq_some_iff] at h1 h2
   obtain ⟨x, hx, rfl⟩ := h1
   obtain ⟨y, hy, rfl⟩ := h2
   have g := (grow cx (max n m)).L _ _ _ _ x hx
   have g2 := g.f (Nat.zero_le _)
   have e := (more hf hfun hi (max n m)).L _ _ _ _ x hx
   cases x with
   | val a s =>
     simp only at e
     rw [hy] at e
     cases e
     exact ⟨g2, fun _ => rfl, fun c => by simp [endR] at c⟩
   | fin k s =>
     simp only at e
     rcases e with ⟨hk, e⟩ | ⟨rfl, ht, e⟩
     ·rw [hy] at e
      cases e
      exact ⟨g2, fun _ => rfl, fun c => absurd c hk⟩
     ·have e2 := e y hy
      simp only [Rz.st] at g2
      refine ⟨g2, fun c => absurd rfl c, fun _ => ⟨by simp only [endR]; omega, ?_⟩⟩
      cases y with
      | val a s' => exact ⟨e2.1, by simp only [Rz.st] at e2; simp only [endR]; omega⟩
      | fin k s' => exact ⟨e2.1, by simp only [Rz.st] at e2; simp only [endR]; omega⟩
end Go.Al
