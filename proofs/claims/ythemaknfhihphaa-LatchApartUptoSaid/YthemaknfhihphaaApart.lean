/-
  LatchApart returns true at every input, and leaves its arguments as they were; where the arguments hold at most 1048576 values and letters.
-/
import Derived.Test.YthemaknfhihphaaLoads
import Derived.Test.YthemaknfhihphaaPlays
namespace Go.Wk.L14
open Go Go.Vs Go.Proofs
set_option linter.unusedSimpArgs false
set_option linter.unusedVariables false
set_option maxRecDepth 10000

/-! LatchApart -/
structure AP (x y : XS) : Prop where
  ex : EX x
  ey : EX y
  nx : x.n = 5
  ny : y.n = 5
  gx : x.group = [1, 2, 1, 2, 0]
  gy : y.group = [1, 2, 1, 2, 0]
  s0 : x.set.getD 0 false = y.set.getD 0 false
  s2 : x.set.getD 2 false = y.set.getD 2 false
  a0 : x.at_.getD 0 0 = y.at_.getD 0 0
  a2 : x.at_.getD 2 0 = y.at_.getD 2 0
  h1 : x.has (.int .i64 1) = y.has (.int .i64 1)
  f1 : x.f (.int .i64 1) = y.f (.int .i64 1)
theorem EX.trip {x : XS} (h : EX x) (i now : Int) : EX (Wk.L14.trip x i now).2 := let ⟨_, h⟩ := h; ⟨_, (h.trip i now).2⟩
theorem EX.reset {x : XS} (h : EX x) (i : Int) : EX (Wk.L14.reset x i).2 := let ⟨_, h⟩ := h; ⟨_, (h.reset i).2⟩
def own (i : Int) : Bool := i == 0 || i == 2
theorem f1_own {x : XS} (h : EX x) (hn : x.n = 5) (hg : x.group = [1, 2, 1, 2, 0]) (hh : x.has (.int .i64 1) = true) : x.f (.int .i64 1) = 0 ∨ x.f (.int .i64 1) = 2 := by
  obtain ⟨y, h⟩ := h
  obtain ⟨_, g1, _⟩ := h.grp 1 hh
  obtain ⟨f0, f1⟩ := h.xok.f 1 hh
  rw [hg] at g1
  generalize x.f (.int .i64 1) = f at *
  rw [hn] at f1
  have : f = 0 ∨ f = 1 ∨ f = 2 ∨ f = 3 ∨ f = 4 := by omega
  rcases this with rfl | rfl | rfl | rfl | rfl <;> simp at g1 <;> simp
theorem grp_of {i : Int} (h0 : ¬ i < 0) (h1 : ¬ i ≥ (5 : Int)) : ([1, 2, 1, 2, 0] : List Int).getD i.toNat 0 = 1 ↔ own i = true := by
  have : i = 0 ∨ i = 1 ∨ i = 2 ∨ i = 3 ∨ i = 4 := by omega
  rcases this with rfl | rfl | rfl | rfl | rfl <;> simp [own]
theorem any5 (p : Nat → Bool) : anyN 5 p = (p 0 || p 1 || p 2 || p 3 || p 4) := by simp [anyN_succ, anyN_zero]

/-- What another one's group does not touch. -/
theorem trip_far {x : XS} (hx : EX x) (hn : x.n = 5) (hg : x.group = [1, 2, 1, 2, 0]) {i now : Int} (ho : own i = false) : ∀ r, r = (Wk.L14.trip x i now).2 → r.set.getD 0 false = x.set.getD 0 false ∧ r.set.getD 2 false = x.set.getD 2 false ∧ r.at_.getD 0 0 = x.at_.getD 0 0 ∧ r.at_.getD 2 0 = x.at_.getD 2 0 ∧ r.has (.int .i64 1) = x.has (.int .i64 1) ∧ r.f (.int .i64 1) = x.f (.int .i64 1) := by
  rintro r rfl
  unfold Wk.L14.trip
  rw [hn]
  by_cases h0 : i < 0
  · rw [if_pos h0]; exact ⟨rfl, rfl, rfl, rfl, rfl, rfl⟩
  rw [if_neg h0]
  by_cases h1 : i ≥ ((5 : Nat) : Int)
  · rw [if_pos h1]; exact ⟨rfl, rfl, rfl, rfl, rfl, rfl⟩
  rw [if_neg h1]
  split
  · exact ⟨rfl, rfl, rfl, rfl, rfl, rfl⟩
  · have hne : i ≠ 0 ∧ i ≠ 2 := by simp only [own, Bool.or_eq_false_iff, beq_eq_false_iff_ne] at ho; exact ho
    have hk : (1 : Int) ≠ x.group.getD i.toNat 0 := fun e => by
      rw [hg] at e
      have := (grp_of h0 h1).1 e.symm
      rw [ho] at this; cases this
    have e0 : ¬ (i.toNat = 0 ∧ 0 < x.set.length) := by omega
    have e2 : ¬ (i.toNat = 2 ∧ 2 < x.set.length) := by omega
    have e0' : ¬ (i.toNat = 0 ∧ 0 < x.at_.length) := by omega
    have e2' : ¬ (i.toNat = 2 ∧ 2 < x.at_.length) := by omega
    refine ⟨?_, ?_, ?_, ?_, ?_, ?_⟩
    · simp only [put]; rw [getD_set, if_neg e0]
    · simp only [put]; rw [getD_set, if_neg e2]
    · simp only [put]; rw [getD_set, if_neg e0']
    · simp only [put]; rw [getD_set, if_neg e2']
    · simp only [put]; cases mark x i now <;> simp only [cond_true, cond_false, keq, decide_eq_false hk, Bool.false_or]
    · simp only [put]; cases mark x i now <;> simp only [cond_true, cond_false, keq, decide_eq_false hk, Bool.false_or]
theorem reset_far {x : XS} (hx : EX x) (hn : x.n = 5) (hg : x.group = [1, 2, 1, 2, 0]) {i : Int} (ho : own i = false) : ∀ r, r = (Wk.L14.reset x i).2 → r.set.getD 0 false = x.set.getD 0 false ∧ r.set.getD 2 false = x.set.getD 2 false ∧ r.at_.getD 0 0 = x.at_.getD 0 0 ∧ r.at_.getD 2 0 = x.at_.getD 2 0 ∧ r.has (.int .i64 1) = x.has (.int .i64 1) ∧ r.f (.int .i64 1) = x.f (.int .i64 1) := by
  rintro r rfl
  unfold Wk.L14.reset
  rw [hn]
  by_cases h0 : i < 0
  · rw [if_pos h0]; exact ⟨rfl, rfl, rfl, rfl, rfl, rfl⟩
  rw [if_neg h0]
  by_cases h1 : i ≥ ((5 : Nat) : Int)
  · rw [if_pos h1]; exact ⟨rfl, rfl, rfl, rfl, rfl, rfl⟩
  rw [if_neg h1]
  split
  · have hne : i ≠ 0 ∧ i ≠ 2 := by simp only [own, Bool.or_eq_false_iff, beq_eq_false_iff_ne] at ho; exact ho
    have hk : (1 : Int) ≠ x.group.getD i.toNat 0 := fun e => by
      rw [hg] at e
      have := (grp_of h0 h1).1 e.symm
      rw [ho] at this; cases this
    have e0 : ¬ (i.toNat = 0 ∧ 0 < x.set.length) := by omega
    have e2 : ¬ (i.toNat = 2 ∧ 2 < x.set.length) := by omega
    have e0' : ¬ (i.toNat = 0 ∧ 0 < x.at_.length) := by omega
    have e2' : ¬ (i.toNat = 2 ∧ 2 < x.at_.length) := by omega
    generalize (x.has (Value.int IntKind.i64 (x.group.getD i.toNat 0)) && x.f (Value.int IntKind.i64 (x.group.getD i.toNat 0)) == i) = m
    refine ⟨?_, ?_, ?_, ?_, ?_, ?_⟩
    · simp only [clr]; rw [getD_set, if_neg e0]
    · simp only [clr]; rw [getD_set, if_neg e2]
    · simp only [clr]; rw [getD_set, if_neg e0']
    · simp only [clr]; rw [getD_set, if_neg e2']
    · simp only [clr]; cases m <;> simp only [cond_true, cond_false, keq, decide_eq_false hk, Bool.not_false, Bool.and_true]
    · simp only [clr]; cases m <;> simp only [cond_true, cond_false, keq, decide_eq_false hk, Bool.not_false, Bool.and_true]
  · exact ⟨rfl, rfl, rfl, rfl, rfl, rfl⟩

theorem AP.trip_far {x y : XS} (h : AP x y) {i now : Int} (ho : own i = false) : AP (Wk.L14.trip x i now).2 y := by
  obtain ⟨q0, q1, q2, q3, q4, q5⟩ := Wk.L14.trip_far h.ex h.nx h.gx (now := now) ho _ rfl
  exact ⟨h.ex.trip i now, h.ey, (trip_n _ _ _).trans h.nx, h.ny, (trip_cols _ _ _).1.trans h.gx, h.gy, q0.trans h.s0, q1.trans h.s2, q2.trans h.a0, q3.trans h.a2, q4.trans h.h1, q5.trans h.f1⟩
theorem AP.reset_far {x y : XS} (h : AP x y) {i : Int} (ho : own i = false) : AP (Wk.L14.reset x i).2 y := by
  obtain ⟨q0, q1, q2, q3, q4, q5⟩ := Wk.L14.reset_far h.ex h.nx h.gx ho _ rfl
  exact ⟨h.ex.reset i, h.ey, (reset_n _ _).trans h.nx, h.ny, (reset_cols _ _).1.trans h.gx, h.gy, q0.trans h.s0, q1.trans h.s2, q2.trans h.a0, q3.trans h.a2, q4.trans h.h1, q5.trans h.f1⟩

theorem AP.mark_eq {x y : XS} (h : AP x y) {i now : Int} (ho : own i = true) : mark x i now = mark y i now := by
  have hi : i = 0 ∨ i = 2 := by simpa [own] using ho
  have hf := f1_own h.ex h.nx h.gx
  obtain ⟨_, ⟨⟨x0, x1, x2, x3, x4, x5, x6⟩, _, _, _, _, _, _, _, _⟩⟩ := h.ex
  obtain ⟨_, ⟨⟨y0, y1, y2, y3, y4, y5, y6⟩, _, _, _, _, _, _, _, _⟩⟩ := h.ey
  have hg : x.group.getD i.toNat 0 = 1 := by rw [h.gx]; rcases hi with rfl | rfl <;> rfl
  have hg' : y.group.getD i.toNat 0 = 1 := by rw [h.gy]; rcases hi with rfl | rfl <;> rfl
  have e : (anyN x.n fun j => x.set.getD j false && x.group.getD j 0 == 1) = (anyN y.n fun j => y.set.getD j false && y.group.getD j 0 == 1) := by
    rw [h.nx, h.ny, any5, any5, h.gx, h.gy, h.s0, h.s2]
    simp
  simp only [mark, hg, hg', e, h.h1, h.f1]
  cases hh : y.has (.int .i64 1) with
  | false => rfl
  | true =>
    have e2 : (x.at_.set i.toNat now).getD (y.f (.int .i64 1)).toNat 0 = (y.at_.set i.toNat now).getD (y.f (.int .i64 1)).toNat 0 := by
      rw [getD_set, getD_set, x3, y3, h.nx, h.ny]
      have := hf (h.h1.trans hh)
      rw [h.f1] at this
      have e3 : x.at_.getD (y.f (.int .i64 1)).toNat 0 = y.at_.getD (y.f (.int .i64 1)).toNat 0 := by
        rcases this with e | e <;> rw [e]
        · exact h.a0
        · exact h.a2
      rw [e3]
    rw [e2]

theorem AP.trip_own {x y : XS} (h : AP x y) {i now : Int} (ho : own i = true) : (Wk.L14.trip x i now).1 = (Wk.L14.trip y i now).1 ∧ AP (Wk.L14.trip x i now).2 (Wk.L14.trip y i now).2 := by
  have hi : i = 0 ∨ i = 2 := by simpa [own] using ho
  have hm := h.mark_eq (now := now) ho
  have key : (Wk.L14.trip x i now).1 = (Wk.L14.trip y i now).1 ∧ ∀ r s, r = (Wk.L14.trip x i now).2 → s = (Wk.L14.trip y i now).2 → r.set.getD 0 false = s.set.getD 0 false ∧ r.set.getD 2 false = s.set.getD 2 false ∧ r.at_.getD 0 0 = s.at_.getD 0 0 ∧ r.at_.getD 2 0 = s.at_.getD 2 0 ∧ r.has (.int .i64 1) = s.has (.int .i64 1) ∧ r.f (.int .i64 1) = s.f (.int .i64 1) := by
    obtain ⟨_, ⟨⟨x0, x1, x2, x3, x4, x5, x6⟩, _, _, _, _, _, _, _, _⟩⟩ := h.ex
    obtain ⟨_, ⟨⟨y0, y1, y2, y3, y4, y5, y6⟩, _, _, _, _, _, _, _, _⟩⟩ := h.ey
    have hg : x.group.getD i.toNat 0 = 1 := by rw [h.gx]; rcases hi with rfl | rfl <;> rfl
    have hg' : y.group.getD i.toNat 0 = 1 := by rw [h.gy]; rcases hi with rfl | rfl <;> rfl
    have n0 : ¬ i < 0 := by omega
    have n1 : ¬ i ≥ ((5 : Nat) : Int) := by omega
    have hset : x.set.getD i.toNat false = y.set.getD i.toNat false := by rcases hi with rfl | rfl; exact h.s0; exact h.s2
    unfold Wk.L14.trip
    rw [h.nx, h.ny, if_neg n0, if_neg n0, if_neg n1, if_neg n1, hset, hm]
    split
    · refine ⟨rfl, ?_⟩
      rintro r s rfl rfl
      exact ⟨h.s0, h.s2, h.a0, h.a2, h.h1, h.f1⟩
    · refine ⟨rfl, ?_⟩
      rintro r s rfl rfl
      simp only [put, hg, hg', getD_set, x2, x3, y2, y3, h.nx, h.ny, h.s0, h.s2, h.a0, h.a2]
      refine ⟨trivial, trivial, trivial, trivial, ?_, ?_⟩
      · cases mark y i now <;> simp [keq, h.h1]
      · cases mark y i now <;> simp [keq, h.f1]
  obtain ⟨k1, k2⟩ := key
  obtain ⟨q0, q1, q2, q3, q4, q5⟩ := k2 _ _ rfl rfl
  exact ⟨k1, h.ex.trip i now, h.ey.trip i now, (trip_n _ _ _).trans h.nx, (trip_n _ _ _).trans h.ny, (trip_cols _ _ _).1.trans h.gx, (trip_cols _ _ _).1.trans h.gy, q0, q1, q2, q3, q4, q5⟩

theorem AP.reset_own {x y : XS} (h : AP x y) {i : Int} (ho : own i = true) : (Wk.L14.reset x i).1 = (Wk.L14.reset y i).1 ∧ AP (Wk.L14.reset x i).2 (Wk.L14.reset y i).2 := by
  have hi : i = 0 ∨ i = 2 := by simpa [own] using ho
  have key : (Wk.L14.reset x i).1 = (Wk.L14.reset y i).1 ∧ ∀ r s, r = (Wk.L14.reset x i).2 → s = (Wk.L14.reset y i).2 → r.set.getD 0 false = s.set.getD 0 false ∧ r.set.getD 2 false = s.set.getD 2 false ∧ r.at_.getD 0 0 = s.at_.getD 0 0 ∧ r.at_.getD 2 0 = s.at_.getD 2 0 ∧ r.has (.int .i64 1) = s.has (.int .i64 1) ∧ r.f (.int .i64 1) = s.f (.int .i64 1) := by
    obtain ⟨_, ⟨⟨x0, x1, x2, x3, x4, x5, x6⟩, _, _, _, _, _, _, _, _⟩⟩ := h.ex
    obtain ⟨_, ⟨⟨y0, y1, y2, y3, y4, y5, y6⟩, _, _, _, _, _, _, _, _⟩⟩ := h.ey
    have hg : x.group.getD i.toNat 0 = 1 := by rw [h.gx]; rcases hi with rfl | rfl <;> rfl
    have hg' : y.group.getD i.toNat 0 = 1 := by rw [h.gy]; rcases hi with rfl | rfl <;> rfl
    have n0 : ¬ i < 0 := by omega
    have n1 : ¬ i ≥ ((5 : Nat) : Int) := by omega
    have hset : x.set.getD i.toNat false = y.set.getD i.toNat false := by rcases hi with rfl | rfl; exact h.s0; exact h.s2
    unfold Wk.L14.reset
    rw [h.nx, h.ny, if_neg n0, if_neg n0, if_neg n1, if_neg n1, hset]
    split
    · refine ⟨rfl, ?_⟩
      rintro r s rfl rfl
      simp only [clr, hg, hg', getD_set, x2, x3, y2, y3, h.nx, h.ny, h.s0, h.s2, h.a0, h.a2, h.h1, h.f1]
      generalize (y.has (Value.int IntKind.i64 1) && y.f (Value.int IntKind.i64 1) == i) = m
      refine ⟨trivial, trivial, trivial, trivial, ?_, ?_⟩
      · cases m <;> simp [keq, h.h1]
      · cases m <;> simp [keq, h.f1]
    · refine ⟨rfl, ?_⟩
      rintro r s rfl rfl
      exact ⟨h.s0, h.s2, h.a0, h.a2, h.h1, h.f1⟩
  obtain ⟨k1, k2⟩ := key
  obtain ⟨q0, q1, q2, q3, q4, q5⟩ := k2 _ _ rfl rfl
  exact ⟨k1, h.ex.reset i, h.ey.reset i, (reset_n _ _).trans h.nx, (reset_n _ _).trans h.ny, (reset_cols _ _).1.trans h.gx, (reset_cols _ _).1.trans h.gy, q0, q1, q2, q3, q4, q5⟩

def g5 : GS := ⟨false, true, 5, 5, 5, 5, [1, 2, 1, 2, 0]⟩
theorem g5_ok : GOk g5 := ⟨by decide, rfl, rfl, fun h => nomatch h⟩
theorem AP.new : AP (newX g5) (newX g5) := ⟨EX.new g5_ok, EX.new g5_ok, rfl, rfl, rfl, rfl, rfl, rfl, rfl, rfl, rfl, rfl⟩

theorem own0 {i : Int} (h : (i == 0) = true) : own i = true := by simp [own, h]
theorem own2 {i : Int} (h : (i == 2) = true) : own i = true := by simp [own, h]
theorem ownN {i : Int} (h : (i == 0) = false) (h2 : (i == 2) = false) : own i = false := by simp only [own, h, h2, Bool.or_self]
theorem AP.no_r {x y : XS} (h : AP x y) {i : Int} (ho : own i = true) (hn : ((reset x i).1 == (reset y i).1) = false) : False := by
  rw [(h.reset_own ho).1] at hn; simp at hn
theorem AP.no_t {x y : XS} (h : AP x y) {i now : Int} (ho : own i = true) (hn : ((trip x i now).1 == (trip y i now).1) = false) : False := by
  rw [(h.trip_own ho).1] at hn; simp at hn
theorem AP.no_f {x y : XS} (h : AP x y) (hn : (x.f (.int .i64 1) != y.f (.int .i64 1)) = true) : False := by
  rw [h.f1] at hn; simp at hn
theorem AP.no_h {x y : XS} (h : AP x y) (hn : (x.has (.int .i64 1) == y.has (.int .i64 1)) = false) : False := by
  rw [h.h1] at hn; simp at hn
theorem AP.in_eq {x y : XS} (h : AP x y) (i : Int) : inX x i = inX y i := by simp only [inX, h.nx, h.ny]
theorem AP.no_at0 {x y : XS} (h : AP x y) (hn : (decide ((inX x 0 && x.set.getD (Int.toNat 0) false) = (inX y 0 && y.set.getD (Int.toNat 0) false)) && (decide ((bif inX x 0 then x.at_.getD (Int.toNat 0) 0 else 0) = bif inX y 0 then y.at_.getD (Int.toNat 0) 0 else 0) && decide ((inX x 0 && shF x 0) = (inX y 0 && shF y 0)))) = false) : False := by
  have e1 : shF x 0 = shF y 0 := by
    have a : x.group.getD (Int.toNat 0) 0 = 1 := by rw [h.gx]; rfl
    have b : y.group.getD (Int.toNat 0) 0 = 1 := by rw [h.gy]; rfl
    simp only [shF, a, b, h.h1, h.f1]
  have e2 : x.set.getD (Int.toNat 0) false = y.set.getD (Int.toNat 0) false := h.s0
  have e3 : x.at_.getD (Int.toNat 0) 0 = y.at_.getD (Int.toNat 0) 0 := h.a0
  rw [h.in_eq, e1, e2, e3] at hn
  simp at hn
theorem AP.no_at2 {x y : XS} (h : AP x y) (hn : (decide ((inX x 2 && x.set.getD (Int.toNat 2) false) = (inX y 2 && y.set.getD (Int.toNat 2) false)) && (decide ((bif inX x 2 then x.at_.getD (Int.toNat 2) 0 else 0) = bif inX y 2 then y.at_.getD (Int.toNat 2) 0 else 0) && decide ((inX x 2 && shF x 2) = (inX y 2 && shF y 2)))) = false) : False := by
  have e1 : shF x 2 = shF y 2 := by
    have a : x.group.getD (Int.toNat 2) 0 = 1 := by rw [h.gx]; rfl
    have b : y.group.getD (Int.toNat 2) 0 = 1 := by rw [h.gy]; rfl
    simp only [shF, a, b, h.h1, h.f1]
  have e2 : x.set.getD (Int.toNat 2) false = y.set.getD (Int.toNat 2) false := h.s2
  have e3 : x.at_.getD (Int.toNat 2) 0 = y.at_.getD (Int.toNat 2) 0 := h.a2
  rw [h.in_eq, e1, e2, e3] at hn
  simp at hn

structure AX where
  k : Nat
  x : XS
  y : XS
noncomputable def LApart (o : OL) : Loops := fun body s => match loopId body with
  | _ => some (mkLI Try.f5 body s (X := AX) ⟨0, newX g5, newX g5⟩ [0, 1, 2, 3, 4, 5, 6, 7] (fun a => a.k ≤ o.n ∧ AP a.x a.y) (fun a => o.n - a.k) (fun a => [(7, iv a.k), (2, bv false)])
        (fun a => [some (pO o), some (.arr true 3 5 5 [.int .i64 [1, 2, 1, 2, 0]]), some (xcellA a.x 3 4), some (xarr a.x), some (xmap a.x), some (xcellA a.y 6 7), some (xarr a.y), some (xmap a.y)])
        (fun a s' => match fndX 2 s'.heap, fndX 5 s'.heap with | some (x, [_, p, q]), some (y, [_, b, c]) => some (⟨a.k + 1, x, y⟩, [0, 1, 2, p, q, 5, b, c]) | _, _ => none))
set_option maxRecDepth 100000 in
theorem apart_nf (o : OL) : (fnV Try.prog Γa (LApart o) Try.f5 [pV o 0] [some (pO o)] fun (v : AV) (x : AHeap) => v = bv true) = (let q := [0];
True ∧
  ∀ (x : Unit),
    let q_1 := 1 :: 2 :: 1 :: 2 :: q;
    let q_2 := [false, false, false, false, false];
    GOk (GS.mk false true 5 5 5 5 q_1) ∧
      ∀ (x : Unit),
        let q_3 := q_1;
        let q := 0 :: 0 :: 0 :: 0 :: q;
        let q_4 := Col.bool q_2;
        GOk (GS.mk false true 5 5 5 5 q_3) ∧
          ∀ (x : Unit),
            let q_5 := AO.arr true 50 5 5 [q_4, Col.int IntKind.i64 q, q_4, Col.int IntKind.i64 q_3];
            let q_6 := q_3;
            let q_7 := AO.mapc true (KD.int IntKind.i64) false (fun (x : Value) => false) [MCol.int IntKind.i64 fun (x : Value) => 0];
            let q_8 := q_2;
            let q_9 := [AV.mp 4];
            let q_10 := [AV.mp 7];
            (GOk (GS.mk false true 5 5 5 5 q_6) ∧ OOk (OS.mk (OL.nl o) (OL.rw o) (OL.cap o) (OL.room o) (OL.n o) (OL.m o) (OL.w o) (OL.is o) (OL.nows o) (OL.nf o) (OL.hd o) fun (i : Nat) => [Col.bool (OL.cs o i), Col.int IntKind.i64 (OL.ca o i), Col.bool (OL.cf o i)])) ∧
              ∀ (x : Bool),
                let q_11 := q_5 = q_5;
                let q_12 := AO.arr (OL.rw o) 32 (OL.room o) (OL.m o) [Col.int IntKind.i64 (OL.w o), Col.int IntKind.i64 (OL.is o), Col.int IntKind.i64 (OL.nows o), Col.far (OL.nf o) 37 3 (OL.hd o) fun (i : Nat) => [Col.bool (OL.cs o i), Col.int IntKind.i64 (OL.ca o i), Col.bool (OL.cf o i)]];
                let q := XS.mk 5 5 5 5 q_8 q q_8 q_6 (fun (x : Value) => false) fun (x : Value) => 0;
                let q_13 := AO.arr true 3 5 5 [Col.int IntKind.i64 q_6];
                let q_14 := AV.sl false 1 1 0 5 5;
                let q_15 := AO.cells true 48 (AV.sl false 3 4 0 5 5 :: q_9);
                let q_16 := AO.cells true 48 (AV.sl false 6 4 0 5 5 :: q_10);
                let q_17 := q_7 = q_7;
                let q_18 := AV.sl (OL.nl o) 0 4 0 (OL.n o) (OL.cap o);
                let q_19 := AV.ptr 5 0;
                let q_20 := AV.ptr 2 0;
                let q_21 := AV.val (Value.bool true) = AV.val (Value.bool true);
                let q_22 := AV.val (Value.int IntKind.i64 0);
                let q_23 := AV.val (Value.bool x) = AV.val (Value.bool x);
                let q_24 := AV.val (Value.bool false) = AV.val (Value.bool false);
                Bif x q_21
                  (((0 ≤ OL.n o ∧ AP q q) ∧ (q_22 = q_22 ∧ q_24 ∧ q_23 ∧ q_19 = q_19 ∧ q_20 = q_20 ∧ q_14 = q_14 ∧ q_21 ∧ q_18 = q_18 ∧ True) ∧ Bif (AO.deadB q_12) True (q_12 = q_12) ∧ q_13 = q_13 ∧ q_15 = q_15 ∧ q_11 ∧ q_17 ∧ q_16 = q_16 ∧ q_11 ∧ q_17 ∧ True) ∧
                    ∀ (x : AX),
                      AX.k x ≤ OL.n o ∧ AP (AX.x x) (AX.y x) →
                        let q := q_12;
                        let q_25 := q_13;
                        let q_26 := 0 + Int.toNat (↑(AX.k x) : Int);
                        let q_27 := q_14;
                        let q_28 := q_18;
                        let q_29 := AV.val (Value.int IntKind.i64 (IntKind.wrap IntKind.i64 ((↑(AX.k x) : Int) + 1)));
                        let q_30 := AX.k x + 1;
                        let q_31 := AO.arr true 50 (XS.room (AX.y x)) (XS.m (AX.y x)) [Col.bool (XS.set (AX.y x)), Col.int IntKind.i64 (XS.at_ (AX.y x)), Col.bool (XS.first (AX.y x)), Col.int IntKind.i64 (XS.group (AX.y x))];
                        let q_32 := OL.n o - AX.k x;
                        let q_33 := q_19;
                        let q_34 := q_20;
                        let q_35 := q_21;
                        let q_36 := q_9;
                        let q_37 := q_10;
                        let q_38 := q_23;
                        let q_39 := AV.sl false 6 4 0 (XS.n (AX.y x)) (XS.cap (AX.y x));
                        let q_40 := AV.val (Value.bool false) = AV.val (Value.bool true);
                        let q_41 := q_24;
                        let q_42 := Value.int IntKind.i64 1;
                        let q_43 := List.getD (OL.w o) q_26 0 == 3;
                        let q_44 := List.getD (OL.is o) q_26 0;
                        let q_45 := AO.mapc true (KD.int IntKind.i64) false (XS.has (AX.y x)) [MCol.int IntKind.i64 (XS.f (AX.y x))];
                        let q_46 := List.getD (XS.at_ (AX.y x)) (Int.toNat 0) 0;
                        let q_47 := List.getD (XS.at_ (AX.y x)) (Int.toNat 2) 0;
                        let q_48 := List.getD (XS.set (AX.y x)) (Int.toNat 0) false;
                        let q_49 := List.getD (XS.set (AX.y x)) (Int.toNat 2) false;
                        let q_50 := decide (q_26 < OL.m o);
                        let q_51 := inX (AX.y x) 0;
                        let q_52 := inX (AX.y x) 2;
                        let q_53 := shF (AX.y x) 0;
                        let q_54 := shF (AX.y x) 2;
                        Bif (decide ((↑(AX.k x) : Int) < (↑(OL.n o) : Int)))
                          (Bif (!OL.nl o && (inR (↑(AX.k x) : Int) (OL.n o) && q_50))
                            (Bif q_50
                              (Bif (q_44 == 0)
                                (Bif q_43
                                  (XOk (AX.x x) ∧
                                    ∀ (x_2 : Unit),
                                      XOk (AX.y x) ∧
                                        ∀ (x_3 : Unit),
                                          let q_55 := q_44;
                                          let q_56 := q_40;
                                          Bif (!Prod.fst (reset (AX.x x) q_55) == Prod.fst (reset (AX.y x) q_55)) q_56
                                            (True ∧
                                              ∀ (x_4 : Unit),
                                                let q_57 := q_55;
                                                True ∧
                                                  ∀ (x_5 : Unit),
                                                    let q_58 := Prod.snd (reset (AX.x x) q_57);
                                                    let q_59 := Prod.snd (reset (AX.y x) q_57);
                                                    let q_60 := q_42;
                                                    let q_61 := q_56;
                                                    Bif (XS.f q_58 q_60 != XS.f q_59 q_60) q_61
                                                      (Bif (!XS.has q_58 q_60 == XS.has q_59 q_60) q_61
                                                        (XOk q_58 ∧
                                                          ∀ (x : Unit),
                                                            let q_62 := q_59;
                                                            XOk q_62 ∧
                                                              ∀ (x : Unit),
                                                                let q_63 := q_58;
                                                                let q_64 := q_62;
                                                                let q_65 := bif inX q_64 0 then List.getD (XS.at_ q_64) (Int.toNat 0) 0 else 0;
                                                                let q_66 := bif inX q_63 0 then List.getD (XS.at_ q_63) (Int.toNat 0) 0 else 0;
                                                                let q_67 := inX q_64 0 && List.getD (XS.set q_64) (Int.toNat 0) false;
                                                                let q_68 := inX q_63 0 && List.getD (XS.set q_63) (Int.toNat 0) false;
                                                                let q_69 := inX q_64 0 && shF q_64 0;
                                                                let q_70 := inX q_63 0 && shF q_63 0;
                                                                let q_71 := q_30;
                                                                let q_72 := q_61;
                                                                Bif (!(decide (q_68 = q_67) && (decide (q_66 = q_65) && (decide (q_70 = q_69) && true)))) q_72
                                                                  (XOk q_63 ∧
                                                                    ∀ (x : Unit),
                                                                      let q_73 := AX.mk q_71 q_63 q_64;
                                                                      let q_74 := q_64;
                                                                      XOk q_74 ∧
                                                                        ∀ (x : Unit),
                                                                          let q_75 := AX.y q_73;
                                                                          let q_76 := AX.x q_73;
                                                                          let q_77 := q_74;
                                                                          let q_78 := q_63;
                                                                          let q := q;
                                                                          let q_79 := q_25;
                                                                          let q_80 := AX.k (AX.mk q_71 q_78 q_77);
                                                                          let q_81 := AO.arr true 50 (XS.room q_75) (XS.m q_75) [Col.bool (XS.set q_75), Col.int IntKind.i64 (XS.at_ q_75), Col.bool (XS.first q_75), Col.int IntKind.i64 (XS.group q_75)];
                                                                          let q_82 := AO.arr true 50 (XS.room q_76) (XS.m q_76) [Col.bool (XS.set q_76), Col.int IntKind.i64 (XS.at_ q_76), Col.bool (XS.first q_76), Col.int IntKind.i64 (XS.group q_76)];
                                                                          let q_83 := bif inX q_77 2 then List.getD (XS.at_ q_77) (Int.toNat 2) 0 else 0;
                                                                          let q_84 := bif inX q_78 2 then List.getD (XS.at_ q_78) (Int.toNat 2) 0 else 0;
                                                                          let q_85 := q_27;
                                                                          let q_86 := q_28;
                                                                          let q_87 := inX q_77 2 && List.getD (XS.set q_77) (Int.toNat 2) false;
                                                                          let q_88 := inX q_78 2 && List.getD (XS.set q_78) (Int.toNat 2) false;
                                                                          let q_89 := inX q_77 2 && shF q_77 2;
                                                                          let q_90 := inX q_78 2 && shF q_78 2;
                                                                          let q_91 := q_33;
                                                                          let q_92 := q_34;
                                                                          let q_93 := q_36;
                                                                          let q_94 := q_37;
                                                                          Bif (!(decide (q_88 = q_87) && (decide (q_84 = q_83) && (decide (q_90 = q_89) && true)))) q_72 ((q_80 ≤ OL.n o ∧ AP q_76 q_75) ∧ OL.n o - q_80 < q_32 ∧ (q_29 = AV.val (Value.int IntKind.i64 (↑q_80 : Int)) ∧ q_41 ∧ q_38 ∧ q_91 = q_91 ∧ q_92 = q_92 ∧ q_85 = q_85 ∧ q_35 ∧ q_86 = q_86 ∧ True) ∧ Bif (AO.deadB q) True (q = q) ∧ q_79 = q_79 ∧ AO.cells true 48 (AV.sl false 3 4 0 (XS.n q_78) (XS.cap q_78) :: q_93) = AO.cells true 48 (AV.sl false 3 4 0 (XS.n q_76) (XS.cap q_76) :: q_93) ∧ Bif (AO.deadB q_82) True (AO.arr true 50 (XS.room q_78) (XS.m q_78) [Col.bool (XS.set q_78), Col.int IntKind.i64 (XS.at_ q_78), Col.bool (XS.first q_78), Col.int IntKind.i64 (XS.group q_78)] = q_82) ∧ AO.mapc true (KD.int IntKind.i64) false (XS.has q_78) [MCol.int IntKind.i64 (XS.f q_78)] = AO.mapc true (KD.int IntKind.i64) false (XS.has q_76) [MCol.int IntKind.i64 (XS.f q_76)] ∧ AO.cells true 48 (AV.sl false 6 4 0 (XS.n q_77) (XS.cap q_77) :: q_94) = AO.cells true 48 (AV.sl false 6 4 0 (XS.n q_75) (XS.cap q_75) :: q_94) ∧ Bif (AO.deadB q_81) True (AO.arr true 50 (XS.room q_77) (XS.m q_77) [Col.bool (XS.set q_77), Col.int IntKind.i64 (XS.at_ q_77), Col.bool (XS.first q_77), Col.int IntKind.i64 (XS.group q_77)] = q_81) ∧ AO.mapc true (KD.int IntKind.i64) false (XS.has q_77) [MCol.int IntKind.i64 (XS.f q_77)] = AO.mapc true (KD.int IntKind.i64) false (XS.has q_75) [MCol.int IntKind.i64 (XS.f q_75)] ∧ True))))))
                                  (XOk (AX.x x) ∧
                                    ∀ (x_2 : Unit),
                                      XOk (AX.y x) ∧
                                        ∀ (x_3 : Unit),
                                          let q_55 := q_26;
                                          let q_56 := List.getD (OL.nows o) q_55 0;
                                          let q_57 := List.getD (OL.is o) q_55 0;
                                          let q_58 := q_40;
                                          Bif (!Prod.fst (trip (AX.x x) q_57 q_56) == Prod.fst (trip (AX.y x) q_57 q_56)) q_58
                                            (True ∧
                                              ∀ (x_4 : Unit),
                                                let q_59 := q_55;
                                                let q_60 := List.getD (OL.nows o) q_59 0;
                                                let q_61 := List.getD (OL.is o) q_59 0;
                                                True ∧
                                                  ∀ (x_5 : Unit),
                                                    let q_62 := Prod.snd (trip (AX.y x) q_61 q_60);
                                                    let q_63 := Prod.snd (trip (AX.x x) q_61 q_60);
                                                    let q_64 := q_42;
                                                    let q_65 := q_58;
                                                    Bif (XS.f q_63 q_64 != XS.f q_62 q_64) q_65
                                                      (Bif (!XS.has q_63 q_64 == XS.has q_62 q_64) q_65
                                                        (XOk q_63 ∧
                                                          ∀ (x_6 : Unit),
                                                            let q_66 := q_62;
                                                            let q_67 := q_59;
                                                            XOk q_66 ∧
                                                              ∀ (x_7 : Unit),
                                                                let q_68 := q_66;
                                                                let q_69 := Prod.snd (trip (AX.x x) (List.getD (OL.is o) q_67 0) (List.getD (OL.nows o) q_67 0));
                                                                let q_70 := bif inX q_68 0 then List.getD (XS.at_ q_68) (Int.toNat 0) 0 else 0;
                                                                let q_71 := bif inX q_69 0 then List.getD (XS.at_ q_69) (Int.toNat 0) 0 else 0;
                                                                let q_72 := inX q_69 0 && List.getD (XS.set q_69) (Int.toNat 0) false;
                                                                let q_73 := inX q_68 0 && List.getD (XS.set q_68) (Int.toNat 0) false;
                                                                let q_74 := inX q_69 0 && shF q_69 0;
                                                                let q_75 := inX q_68 0 && shF q_68 0;
                                                                let q_76 := q_30;
                                                                let q_77 := q_65;
                                                                Bif (!(decide (q_72 = q_73) && (decide (q_71 = q_70) && (decide (q_74 = q_75) && true)))) q_77
                                                                  (XOk q_69 ∧
                                                                    ∀ (x_8 : Unit),
                                                                      let q_78 := AX.mk q_76 q_69 q_68;
                                                                      let q_79 := q_68;
                                                                      let q_80 := q_67;
                                                                      XOk q_79 ∧
                                                                        ∀ (x_9 : Unit),
                                                                          let q_81 := AX.y q_78;
                                                                          let q_82 := AX.x q_78;
                                                                          let q_83 := q_79;
                                                                          let q_84 := Prod.snd (trip (AX.x x) (List.getD (OL.is o) q_80 0) (List.getD (OL.nows o) q_80 0));
                                                                          let q := q;
                                                                          let q_85 := q_25;
                                                                          let q_86 := AX.k (AX.mk q_76 q_84 q_83);
                                                                          let q_87 := AO.arr true 50 (XS.room q_81) (XS.m q_81) [Col.bool (XS.set q_81), Col.int IntKind.i64 (XS.at_ q_81), Col.bool (XS.first q_81), Col.int IntKind.i64 (XS.group q_81)];
                                                                          let q_88 := AO.arr true 50 (XS.room q_82) (XS.m q_82) [Col.bool (XS.set q_82), Col.int IntKind.i64 (XS.at_ q_82), Col.bool (XS.first q_82), Col.int IntKind.i64 (XS.group q_82)];
                                                                          let q_89 := bif inX q_84 2 then List.getD (XS.at_ q_84) (Int.toNat 2) 0 else 0;
                                                                          let q_90 := bif inX q_83 2 then List.getD (XS.at_ q_83) (Int.toNat 2) 0 else 0;
                                                                          let q_91 := q_27;
                                                                          let q_92 := q_28;
                                                                          let q_93 := inX q_83 2 && List.getD (XS.set q_83) (Int.toNat 2) false;
                                                                          let q_94 := inX q_84 2 && List.getD (XS.set q_84) (Int.toNat 2) false;
                                                                          let q_95 := inX q_84 2 && shF q_84 2;
                                                                          let q_96 := inX q_83 2 && shF q_83 2;
                                                                          let q_97 := q_33;
                                                                          let q_98 := q_34;
                                                                          let q_99 := q_36;
                                                                          let q_100 := q_37;
                                                                          Bif (!(decide (q_94 = q_93) && (decide (q_89 = q_90) && (decide (q_95 = q_96) && true)))) q_77 ((q_86 ≤ OL.n o ∧ AP q_82 q_81) ∧ OL.n o - q_86 < q_32 ∧ (q_29 = AV.val (Value.int IntKind.i64 (↑q_86 : Int)) ∧ q_41 ∧ q_38 ∧ q_97 = q_97 ∧ q_98 = q_98 ∧ q_91 = q_91 ∧ q_35 ∧ q_92 = q_92 ∧ True) ∧ Bif (AO.deadB q) True (q = q) ∧ q_85 = q_85 ∧ AO.cells true 48 (AV.sl false 3 4 0 (XS.n q_84) (XS.cap q_84) :: q_99) = AO.cells true 48 (AV.sl false 3 4 0 (XS.n q_82) (XS.cap q_82) :: q_99) ∧ Bif (AO.deadB q_88) True (AO.arr true 50 (XS.room q_84) (XS.m q_84) [Col.bool (XS.set q_84), Col.int IntKind.i64 (XS.at_ q_84), Col.bool (XS.first q_84), Col.int IntKind.i64 (XS.group q_84)] = q_88) ∧ AO.mapc true (KD.int IntKind.i64) false (XS.has q_84) [MCol.int IntKind.i64 (XS.f q_84)] = AO.mapc true (KD.int IntKind.i64) false (XS.has q_82) [MCol.int IntKind.i64 (XS.f q_82)] ∧ AO.cells true 48 (AV.sl false 6 4 0 (XS.n q_83) (XS.cap q_83) :: q_100) = AO.cells true 48 (AV.sl false 6 4 0 (XS.n q_81) (XS.cap q_81) :: q_100) ∧ Bif (AO.deadB q_87) True (AO.arr true 50 (XS.room q_83) (XS.m q_83) [Col.bool (XS.set q_83), Col.int IntKind.i64 (XS.at_ q_83), Col.bool (XS.first q_83), Col.int IntKind.i64 (XS.group q_83)] = q_87) ∧ AO.mapc true (KD.int IntKind.i64) false (XS.has q_83) [MCol.int IntKind.i64 (XS.f q_83)] = AO.mapc true (KD.int IntKind.i64) false (XS.has q_81) [MCol.int IntKind.i64 (XS.f q_81)] ∧ True)))))))
                                (Bif q_43
                                  (XOk (AX.x x) ∧
                                    ∀ (x_2 : Unit),
                                      let q := q;
                                      let q_55 := q_25;
                                      let q_56 := q_44;
                                      let q_57 := q_27;
                                      let q_58 := q_28;
                                      let q_59 := q_29;
                                      let q_60 := q_30;
                                      let q_61 := q_32;
                                      let q_62 := q_33;
                                      let q_63 := q_34;
                                      let q_64 := q_36;
                                      let q_65 := q_37;
                                      let q_66 := q_38;
                                      let q_67 := q_35;
                                      let q_68 := q_40;
                                      let q_69 := q_41;
                                      let q_70 := q_42;
                                      Bif (q_56 == 2)
                                        (XOk (AX.y x) ∧
                                          ∀ (x_3 : Unit),
                                            let q_71 := q_56;
                                            let q_72 := q_68;
                                            Bif (!Prod.fst (reset (AX.x x) q_71) == Prod.fst (reset (AX.y x) q_71)) q_72
                                              (True ∧
                                                ∀ (x_4 : Unit),
                                                  let q_73 := q_71;
                                                  True ∧
                                                    ∀ (x_5 : Unit),
                                                      let q_74 := Prod.snd (reset (AX.x x) q_73);
                                                      let q_75 := Prod.snd (reset (AX.y x) q_73);
                                                      let q_76 := q_70;
                                                      let q_77 := q_72;
                                                      Bif (XS.f q_74 q_76 != XS.f q_75 q_76) q_77
                                                        (Bif (!XS.has q_74 q_76 == XS.has q_75 q_76) q_77
                                                          (XOk q_74 ∧
                                                            ∀ (x : Unit),
                                                              let q_78 := q_75;
                                                              XOk q_78 ∧
                                                                ∀ (x : Unit),
                                                                  let q_79 := q_74;
                                                                  let q_80 := q_78;
                                                                  let q_81 := bif inX q_79 0 then List.getD (XS.at_ q_79) (Int.toNat 0) 0 else 0;
                                                                  let q_82 := bif inX q_80 0 then List.getD (XS.at_ q_80) (Int.toNat 0) 0 else 0;
                                                                  let q_83 := inX q_80 0 && List.getD (XS.set q_80) (Int.toNat 0) false;
                                                                  let q_84 := inX q_79 0 && List.getD (XS.set q_79) (Int.toNat 0) false;
                                                                  let q_85 := inX q_79 0 && shF q_79 0;
                                                                  let q_86 := inX q_80 0 && shF q_80 0;
                                                                  let q_87 := q_60;
                                                                  let q_88 := q_77;
                                                                  Bif (!(decide (q_84 = q_83) && (decide (q_81 = q_82) && (decide (q_85 = q_86) && true)))) q_88
                                                                    (XOk q_79 ∧
                                                                      ∀ (x : Unit),
                                                                        let q_89 := AX.mk q_87 q_79 q_80;
                                                                        let q_90 := q_80;
                                                                        XOk q_90 ∧
                                                                          ∀ (x : Unit),
                                                                            let q_91 := AX.y q_89;
                                                                            let q_92 := AX.x q_89;
                                                                            let q_93 := q_90;
                                                                            let q_94 := q_79;
                                                                            let q := q;
                                                                            let q_95 := q_55;
                                                                            let q_96 := AX.k (AX.mk q_87 q_94 q_93);
                                                                            let q_97 := AO.arr true 50 (XS.room q_92) (XS.m q_92) [Col.bool (XS.set q_92), Col.int IntKind.i64 (XS.at_ q_92), Col.bool (XS.first q_92), Col.int IntKind.i64 (XS.group q_92)];
                                                                            let q_98 := AO.arr true 50 (XS.room q_91) (XS.m q_91) [Col.bool (XS.set q_91), Col.int IntKind.i64 (XS.at_ q_91), Col.bool (XS.first q_91), Col.int IntKind.i64 (XS.group q_91)];
                                                                            let q_99 := bif inX q_94 2 then List.getD (XS.at_ q_94) (Int.toNat 2) 0 else 0;
                                                                            let q_100 := bif inX q_93 2 then List.getD (XS.at_ q_93) (Int.toNat 2) 0 else 0;
                                                                            let q_101 := q_57;
                                                                            let q_102 := q_58;
                                                                            let q_103 := inX q_93 2 && List.getD (XS.set q_93) (Int.toNat 2) false;
                                                                            let q_104 := inX q_94 2 && List.getD (XS.set q_94) (Int.toNat 2) false;
                                                                            let q_105 := inX q_94 2 && shF q_94 2;
                                                                            let q_106 := inX q_93 2 && shF q_93 2;
                                                                            let q_107 := q_62;
                                                                            let q_108 := q_63;
                                                                            let q_109 := q_64;
                                                                            let q_110 := q_65;
                                                                            Bif (!(decide (q_104 = q_103) && (decide (q_99 = q_100) && (decide (q_105 = q_106) && true)))) q_88 ((q_96 ≤ OL.n o ∧ AP q_92 q_91) ∧ OL.n o - q_96 < q_61 ∧ (q_59 = AV.val (Value.int IntKind.i64 (↑q_96 : Int)) ∧ q_69 ∧ q_66 ∧ q_107 = q_107 ∧ q_108 = q_108 ∧ q_101 = q_101 ∧ q_67 ∧ q_102 = q_102 ∧ True) ∧ Bif (AO.deadB q) True (q = q) ∧ q_95 = q_95 ∧ AO.cells true 48 (AV.sl false 3 4 0 (XS.n q_94) (XS.cap q_94) :: q_109) = AO.cells true 48 (AV.sl false 3 4 0 (XS.n q_92) (XS.cap q_92) :: q_109) ∧ Bif (AO.deadB q_97) True (AO.arr true 50 (XS.room q_94) (XS.m q_94) [Col.bool (XS.set q_94), Col.int IntKind.i64 (XS.at_ q_94), Col.bool (XS.first q_94), Col.int IntKind.i64 (XS.group q_94)] = q_97) ∧ AO.mapc true (KD.int IntKind.i64) false (XS.has q_94) [MCol.int IntKind.i64 (XS.f q_94)] = AO.mapc true (KD.int IntKind.i64) false (XS.has q_92) [MCol.int IntKind.i64 (XS.f q_92)] ∧ AO.cells true 48 (AV.sl false 6 4 0 (XS.n q_93) (XS.cap q_93) :: q_110) = AO.cells true 48 (AV.sl false 6 4 0 (XS.n q_91) (XS.cap q_91) :: q_110) ∧ Bif (AO.deadB q_98) True (AO.arr true 50 (XS.room q_93) (XS.m q_93) [Col.bool (XS.set q_93), Col.int IntKind.i64 (XS.at_ q_93), Col.bool (XS.first q_93), Col.int IntKind.i64 (XS.group q_93)] = q_98) ∧ AO.mapc true (KD.int IntKind.i64) false (XS.has q_93) [MCol.int IntKind.i64 (XS.f q_93)] = AO.mapc true (KD.int IntKind.i64) false (XS.has q_91) [MCol.int IntKind.i64 (XS.f q_91)] ∧ True))))))
                                        (True ∧
                                          ∀ (x_3 : Unit),
                                            True ∧
                                              ∀ (x_4 : Unit),
                                                let q_71 := Prod.snd (reset (AX.x x) q_56);
                                                let q_72 := q_70;
                                                let q_73 := q_68;
                                                Bif (XS.f q_71 q_72 != XS.f (AX.y x) q_72) q_73
                                                  (Bif (!XS.has q_71 q_72 == XS.has (AX.y x) q_72) q_73
                                                    (XOk q_71 ∧
                                                      ∀ (x_5 : Unit),
                                                        let q_74 := q_51;
                                                        XOk (AX.y x) ∧
                                                          ∀ (x_6 : Unit),
                                                            let q_75 := q_71;
                                                            let q_76 := bif q_74 then q_46 else 0;
                                                            let q_77 := bif inX q_75 0 then List.getD (XS.at_ q_75) (Int.toNat 0) 0 else 0;
                                                            let q_78 := q_74 && q_48;
                                                            let q_79 := inX q_75 0 && List.getD (XS.set q_75) (Int.toNat 0) false;
                                                            let q_80 := q_74 && q_53;
                                                            let q_81 := inX q_75 0 && shF q_75 0;
                                                            let q_82 := q_60;
                                                            let q_83 := q_73;
                                                            Bif (!(decide (q_79 = q_78) && (decide (q_77 = q_76) && (decide (q_81 = q_80) && true)))) q_83
                                                              (XOk q_75 ∧
                                                                ∀ (x_7 : Unit),
                                                                  let q_84 := AX.mk q_82 q_75 (AX.y x);
                                                                  let q_85 := q_52;
                                                                  XOk (AX.y x) ∧
                                                                    ∀ (x_8 : Unit),
                                                                      let q_86 := AX.y q_84;
                                                                      let q_87 := AX.x q_84;
                                                                      let q_88 := q_75;
                                                                      let q := q;
                                                                      let q_89 := q_55;
                                                                      let q_90 := AX.k (AX.mk q_82 q_88 (AX.y x));
                                                                      let q_91 := AO.arr true 50 (XS.room q_87) (XS.m q_87) [Col.bool (XS.set q_87), Col.int IntKind.i64 (XS.at_ q_87), Col.bool (XS.first q_87), Col.int IntKind.i64 (XS.group q_87)];
                                                                      let q_92 := AO.arr true 50 (XS.room q_86) (XS.m q_86) [Col.bool (XS.set q_86), Col.int IntKind.i64 (XS.at_ q_86), Col.bool (XS.first q_86), Col.int IntKind.i64 (XS.group q_86)];
                                                                      let q_93 := bif q_85 then q_47 else 0;
                                                                      let q_94 := bif inX q_88 2 then List.getD (XS.at_ q_88) (Int.toNat 2) 0 else 0;
                                                                      let q_95 := q_57;
                                                                      let q_96 := q_58;
                                                                      let q_97 := q_85 && q_49;
                                                                      let q_98 := inX q_88 2 && List.getD (XS.set q_88) (Int.toNat 2) false;
                                                                      let q_99 := q_85 && q_54;
                                                                      let q_100 := inX q_88 2 && shF q_88 2;
                                                                      let q_101 := q_62;
                                                                      let q_102 := q_63;
                                                                      let q_103 := q_64;
                                                                      let q_104 := q_65;
                                                                      Bif (!(decide (q_98 = q_97) && (decide (q_94 = q_93) && (decide (q_100 = q_99) && true)))) q_83 ((q_90 ≤ OL.n o ∧ AP q_87 q_86) ∧ OL.n o - q_90 < q_61 ∧ (q_59 = AV.val (Value.int IntKind.i64 (↑q_90 : Int)) ∧ q_69 ∧ q_66 ∧ q_101 = q_101 ∧ q_102 = q_102 ∧ q_95 = q_95 ∧ q_67 ∧ q_96 = q_96 ∧ True) ∧ Bif (AO.deadB q) True (q = q) ∧ q_89 = q_89 ∧ AO.cells true 48 (AV.sl false 3 4 0 (XS.n q_88) (XS.cap q_88) :: q_103) = AO.cells true 48 (AV.sl false 3 4 0 (XS.n q_87) (XS.cap q_87) :: q_103) ∧ Bif (AO.deadB q_91) True (AO.arr true 50 (XS.room q_88) (XS.m q_88) [Col.bool (XS.set q_88), Col.int IntKind.i64 (XS.at_ q_88), Col.bool (XS.first q_88), Col.int IntKind.i64 (XS.group q_88)] = q_91) ∧ AO.mapc true (KD.int IntKind.i64) false (XS.has q_88) [MCol.int IntKind.i64 (XS.f q_88)] = AO.mapc true (KD.int IntKind.i64) false (XS.has q_87) [MCol.int IntKind.i64 (XS.f q_87)] ∧ AO.cells true 48 (q_39 :: q_104) = AO.cells true 48 (AV.sl false 6 4 0 (XS.n q_86) (XS.cap q_86) :: q_104) ∧ Bif (AO.deadB q_92) True (q_31 = q_92) ∧ q_45 = AO.mapc true (KD.int IntKind.i64) false (XS.has q_86) [MCol.int IntKind.i64 (XS.f q_86)] ∧ True))))))
                                  (XOk (AX.x x) ∧
                                    ∀ (x_2 : Unit),
                                      let q := q;
                                      let q_55 := q_25;
                                      let q_56 := q_26;
                                      let q_57 := q_27;
                                      let q_58 := q_28;
                                      let q_59 := q_29;
                                      let q_60 := q_30;
                                      let q_61 := q_32;
                                      let q_62 := q_33;
                                      let q_63 := q_34;
                                      let q_64 := q_36;
                                      let q_65 := q_37;
                                      let q_66 := q_38;
                                      let q_67 := q_35;
                                      let q_68 := q_40;
                                      let q_69 := q_41;
                                      let q_70 := q_42;
                                      Bif (List.getD (OL.is o) q_56 0 == 2)
                                        (XOk (AX.y x) ∧
                                          ∀ (x_3 : Unit),
                                            let q_71 := q_56;
                                            let q_72 := List.getD (OL.nows o) q_71 0;
                                            let q_73 := List.getD (OL.is o) q_71 0;
                                            let q_74 := q_68;
                                            Bif (!Prod.fst (trip (AX.x x) q_73 q_72) == Prod.fst (trip (AX.y x) q_73 q_72)) q_74
                                              (True ∧
                                                ∀ (x_4 : Unit),
                                                  let q_75 := q_71;
                                                  let q_76 := List.getD (OL.nows o) q_75 0;
                                                  let q_77 := List.getD (OL.is o) q_75 0;
                                                  True ∧
                                                    ∀ (x_5 : Unit),
                                                      let q_78 := Prod.snd (trip (AX.y x) q_77 q_76);
                                                      let q_79 := Prod.snd (trip (AX.x x) q_77 q_76);
                                                      let q_80 := q_70;
                                                      let q_81 := q_74;
                                                      Bif (XS.f q_79 q_80 != XS.f q_78 q_80) q_81
                                                        (Bif (!XS.has q_79 q_80 == XS.has q_78 q_80) q_81
                                                          (XOk q_79 ∧
                                                            ∀ (x_6 : Unit),
                                                              let q_82 := q_78;
                                                              let q_83 := q_75;
                                                              XOk q_82 ∧
                                                                ∀ (x_7 : Unit),
                                                                  let q_84 := q_82;
                                                                  let q_85 := Prod.snd (trip (AX.x x) (List.getD (OL.is o) q_83 0) (List.getD (OL.nows o) q_83 0));
                                                                  let q_86 := bif inX q_85 0 then List.getD (XS.at_ q_85) (Int.toNat 0) 0 else 0;
                                                                  let q_87 := bif inX q_84 0 then List.getD (XS.at_ q_84) (Int.toNat 0) 0 else 0;
                                                                  let q_88 := inX q_84 0 && List.getD (XS.set q_84) (Int.toNat 0) false;
                                                                  let q_89 := inX q_85 0 && List.getD (XS.set q_85) (Int.toNat 0) false;
                                                                  let q_90 := inX q_85 0 && shF q_85 0;
                                                                  let q_91 := inX q_84 0 && shF q_84 0;
                                                                  let q_92 := q_60;
                                                                  let q_93 := q_81;
                                                                  Bif (!(decide (q_89 = q_88) && (decide (q_86 = q_87) && (decide (q_90 = q_91) && true)))) q_93
                                                                    (XOk q_85 ∧
                                                                      ∀ (x_8 : Unit),
                                                                        let q_94 := AX.mk q_92 q_85 q_84;
                                                                        let q_95 := q_84;
                                                                        let q_96 := q_83;
                                                                        XOk q_95 ∧
                                                                          ∀ (x_9 : Unit),
                                                                            let q_97 := AX.y q_94;
                                                                            let q_98 := AX.x q_94;
                                                                            let q_99 := q_95;
                                                                            let q_100 := Prod.snd (trip (AX.x x) (List.getD (OL.is o) q_96 0) (List.getD (OL.nows o) q_96 0));
                                                                            let q := q;
                                                                            let q_101 := q_55;
                                                                            let q_102 := AX.k (AX.mk q_92 q_100 q_99);
                                                                            let q_103 := AO.arr true 50 (XS.room q_98) (XS.m q_98) [Col.bool (XS.set q_98), Col.int IntKind.i64 (XS.at_ q_98), Col.bool (XS.first q_98), Col.int IntKind.i64 (XS.group q_98)];
                                                                            let q_104 := AO.arr true 50 (XS.room q_97) (XS.m q_97) [Col.bool (XS.set q_97), Col.int IntKind.i64 (XS.at_ q_97), Col.bool (XS.first q_97), Col.int IntKind.i64 (XS.group q_97)];
                                                                            let q_105 := bif inX q_100 2 then List.getD (XS.at_ q_100) (Int.toNat 2) 0 else 0;
                                                                            let q_106 := bif inX q_99 2 then List.getD (XS.at_ q_99) (Int.toNat 2) 0 else 0;
                                                                            let q_107 := q_57;
                                                                            let q_108 := q_58;
                                                                            let q_109 := inX q_99 2 && List.getD (XS.set q_99) (Int.toNat 2) false;
                                                                            let q_110 := inX q_100 2 && List.getD (XS.set q_100) (Int.toNat 2) false;
                                                                            let q_111 := inX q_100 2 && shF q_100 2;
                                                                            let q_112 := inX q_99 2 && shF q_99 2;
                                                                            let q_113 := q_62;
                                                                            let q_114 := q_63;
                                                                            let q_115 := q_64;
                                                                            let q_116 := q_65;
                                                                            Bif (!(decide (q_110 = q_109) && (decide (q_105 = q_106) && (decide (q_111 = q_112) && true)))) q_93 ((q_102 ≤ OL.n o ∧ AP q_98 q_97) ∧ OL.n o - q_102 < q_61 ∧ (q_59 = AV.val (Value.int IntKind.i64 (↑q_102 : Int)) ∧ q_69 ∧ q_66 ∧ q_113 = q_113 ∧ q_114 = q_114 ∧ q_107 = q_107 ∧ q_67 ∧ q_108 = q_108 ∧ True) ∧ Bif (AO.deadB q) True (q = q) ∧ q_101 = q_101 ∧ AO.cells true 48 (AV.sl false 3 4 0 (XS.n q_100) (XS.cap q_100) :: q_115) = AO.cells true 48 (AV.sl false 3 4 0 (XS.n q_98) (XS.cap q_98) :: q_115) ∧ Bif (AO.deadB q_103) True (AO.arr true 50 (XS.room q_100) (XS.m q_100) [Col.bool (XS.set q_100), Col.int IntKind.i64 (XS.at_ q_100), Col.bool (XS.first q_100), Col.int IntKind.i64 (XS.group q_100)] = q_103) ∧ AO.mapc true (KD.int IntKind.i64) false (XS.has q_100) [MCol.int IntKind.i64 (XS.f q_100)] = AO.mapc true (KD.int IntKind.i64) false (XS.has q_98) [MCol.int IntKind.i64 (XS.f q_98)] ∧ AO.cells true 48 (AV.sl false 6 4 0 (XS.n q_99) (XS.cap q_99) :: q_116) = AO.cells true 48 (AV.sl false 6 4 0 (XS.n q_97) (XS.cap q_97) :: q_116) ∧ Bif (AO.deadB q_104) True (AO.arr true 50 (XS.room q_99) (XS.m q_99) [Col.bool (XS.set q_99), Col.int IntKind.i64 (XS.at_ q_99), Col.bool (XS.first q_99), Col.int IntKind.i64 (XS.group q_99)] = q_104) ∧ AO.mapc true (KD.int IntKind.i64) false (XS.has q_99) [MCol.int IntKind.i64 (XS.f q_99)] = AO.mapc true (KD.int IntKind.i64) false (XS.has q_97) [MCol.int IntKind.i64 (XS.f q_97)] ∧ True))))))
                                        (True ∧
                                          ∀ (x_3 : Unit),
                                            let q_71 := q_56;
                                            True ∧
                                              ∀ (x_4 : Unit),
                                                let q_72 := Prod.snd (trip (AX.x x) (List.getD (OL.is o) q_71 0) (List.getD (OL.nows o) q_71 0));
                                                let q_73 := q_70;
                                                let q_74 := q_68;
                                                Bif (XS.f q_72 q_73 != XS.f (AX.y x) q_73) q_74
                                                  (Bif (!XS.has q_72 q_73 == XS.has (AX.y x) q_73) q_74
                                                    (XOk q_72 ∧
                                                      ∀ (x_5 : Unit),
                                                        let q_75 := q_71;
                                                        let q_76 := q_51;
                                                        XOk (AX.y x) ∧
                                                          ∀ (x_6 : Unit),
                                                            let q_77 := Prod.snd (trip (AX.x x) (List.getD (OL.is o) q_75 0) (List.getD (OL.nows o) q_75 0));
                                                            let q_78 := bif q_76 then q_46 else 0;
                                                            let q_79 := bif inX q_77 0 then List.getD (XS.at_ q_77) (Int.toNat 0) 0 else 0;
                                                            let q_80 := q_76 && q_48;
                                                            let q_81 := inX q_77 0 && List.getD (XS.set q_77) (Int.toNat 0) false;
                                                            let q_82 := q_76 && q_53;
                                                            let q_83 := inX q_77 0 && shF q_77 0;
                                                            let q_84 := q_60;
                                                            let q_85 := q_74;
                                                            Bif (!(decide (q_81 = q_80) && (decide (q_79 = q_78) && (decide (q_83 = q_82) && true)))) q_85
                                                              (XOk q_77 ∧
                                                                ∀ (x_7 : Unit),
                                                                  let q_86 := AX.mk q_84 q_77 (AX.y x);
                                                                  let q_87 := q_75;
                                                                  let q_88 := q_52;
                                                                  XOk (AX.y x) ∧
                                                                    ∀ (x_8 : Unit),
                                                                      let q_89 := AX.y q_86;
                                                                      let q_90 := AX.x q_86;
                                                                      let q_91 := Prod.snd (trip (AX.x x) (List.getD (OL.is o) q_87 0) (List.getD (OL.nows o) q_87 0));
                                                                      let q := q;
                                                                      let q_92 := q_55;
                                                                      let q_93 := AX.k (AX.mk q_84 q_91 (AX.y x));
                                                                      let q_94 := AO.arr true 50 (XS.room q_90) (XS.m q_90) [Col.bool (XS.set q_90), Col.int IntKind.i64 (XS.at_ q_90), Col.bool (XS.first q_90), Col.int IntKind.i64 (XS.group q_90)];
                                                                      let q_95 := AO.arr true 50 (XS.room q_89) (XS.m q_89) [Col.bool (XS.set q_89), Col.int IntKind.i64 (XS.at_ q_89), Col.bool (XS.first q_89), Col.int IntKind.i64 (XS.group q_89)];
                                                                      let q_96 := bif q_88 then q_47 else 0;
                                                                      let q_97 := bif inX q_91 2 then List.getD (XS.at_ q_91) (Int.toNat 2) 0 else 0;
                                                                      let q_98 := q_57;
                                                                      let q_99 := q_58;
                                                                      let q_100 := q_88 && q_49;
                                                                      let q_101 := inX q_91 2 && List.getD (XS.set q_91) (Int.toNat 2) false;
                                                                      let q_102 := q_88 && q_54;
                                                                      let q_103 := inX q_91 2 && shF q_91 2;
                                                                      let q_104 := q_62;
                                                                      let q_105 := q_63;
                                                                      let q_106 := q_64;
                                                                      let q_107 := q_65;
                                                                      Bif (!(decide (q_101 = q_100) && (decide (q_97 = q_96) && (decide (q_103 = q_102) && true)))) q_85 ((q_93 ≤ OL.n o ∧ AP q_90 q_89) ∧ OL.n o - q_93 < q_61 ∧ (q_59 = AV.val (Value.int IntKind.i64 (↑q_93 : Int)) ∧ q_69 ∧ q_66 ∧ q_104 = q_104 ∧ q_105 = q_105 ∧ q_98 = q_98 ∧ q_67 ∧ q_99 = q_99 ∧ True) ∧ Bif (AO.deadB q) True (q = q) ∧ q_92 = q_92 ∧ AO.cells true 48 (AV.sl false 3 4 0 (XS.n q_91) (XS.cap q_91) :: q_106) = AO.cells true 48 (AV.sl false 3 4 0 (XS.n q_90) (XS.cap q_90) :: q_106) ∧ Bif (AO.deadB q_94) True (AO.arr true 50 (XS.room q_91) (XS.m q_91) [Col.bool (XS.set q_91), Col.int IntKind.i64 (XS.at_ q_91), Col.bool (XS.first q_91), Col.int IntKind.i64 (XS.group q_91)] = q_94) ∧ AO.mapc true (KD.int IntKind.i64) false (XS.has q_91) [MCol.int IntKind.i64 (XS.f q_91)] = AO.mapc true (KD.int IntKind.i64) false (XS.has q_90) [MCol.int IntKind.i64 (XS.f q_90)] ∧ AO.cells true 48 (q_39 :: q_107) = AO.cells true 48 (AV.sl false 6 4 0 (XS.n q_89) (XS.cap q_89) :: q_107) ∧ Bif (AO.deadB q_95) True (q_31 = q_95) ∧ q_45 = AO.mapc true (KD.int IntKind.i64) false (XS.has q_89) [MCol.int IntKind.i64 (XS.f q_89)] ∧ True))))))))
                              False)
                            False)
                          q_35)) := by kernel_rfl
set_option maxHeartbeats 4000000 in
theorem apart_vc (o : OL) (ho : POk o) : FnV Try.prog Γa (LApart o) Try.f5 [pV o 0] [some (pO o)] (fun v _ => v = bv true) := by
  have hook := ho.ook
  obtain ⟨o1, o2, o3, o4, o5, o6, o7, o8, o9, o10⟩ := ho
  refine FnV.of (apart_nf _) ?_
  simp only [Bif_need, Bif_True]
  simp only [Bif_iff, eq_self, and_true, true_and, AV.val.injEq, AV.agg.injEq, AV.tup.injEq, AV.sl.injEq, AV.ptr.injEq, AV.mp.injEq, Value.int.injEq, Value.bool.injEq, Value.string.injEq, AO.cells.injEq, AO.arr.injEq, AO.mapc.injEq, List.cons.injEq, Col.bool.injEq, Col.int.injEq, Col.str.injEq, MCol.int.injEq, MCol.bool.injEq, MCol.str.injEq, decide_eq_true_eq, decide_eq_false_iff_not, Nat.zero_add, Nat.add_zero, implies_true, Bool.and_eq_true, inR_iff, List.drop_zero, List.take_nil, List.drop_nil, List.nil_append, Int.toNat_natCast, longEnough, colLen, Bool.not_true, Bool.not_false, Bool.true_or, Bool.or_eq_true, Bool.not_eq_true', Bool.not_eq_false', take_take_self, take_tab, one_col, tab_length, mix_length, List.length_take, Nat.min_eq_left, List.set_cons_zero, blt01, Bool.and_false, Bool.and_true, Bool.false_and, Bool.true_and, Bool.false_eq_true, Bool.true_eq_false, false_and, and_false, false_implies]
  repeat' (first | apply And.intro | intro _)
  all_goals try omega
  all_goals first
    | omega
    | with_reducible assumption
    | (rw [IntWalk.i64_in _ (by omega)]; omega)
    | with_reducible exact nl_false o3 ‹_›
    | exact g5_ok
    | exact AP.new
    | (have hI := (‹_ ∧ AP _ _›).2
       with_reducible first
       | exact hI.ex.xok
       | exact hI.ey.xok
       | exact (hI.ex.trip _ _).xok
       | exact (hI.ey.trip _ _).xok
       | exact (hI.ex.reset _).xok
       | exact (hI.ey.reset _).xok
       | (have hO := own0 ‹_›
          first
          | exact (hI.reset_own hO).2
          | exact (hI.trip_own hO).2
          | exact hI.no_r hO ‹_›
          | exact hI.no_t hO ‹_›
          | exact (hI.reset_own hO).2.no_f ‹_›
          | exact (hI.reset_own hO).2.no_h ‹_›
          | exact (hI.reset_own hO).2.no_at0 ‹_›
          | exact (hI.reset_own hO).2.no_at2 ‹_›
          | exact (hI.trip_own hO).2.no_f ‹_›
          | exact (hI.trip_own hO).2.no_h ‹_›
          | exact (hI.trip_own hO).2.no_at0 ‹_›
          | exact (hI.trip_own hO).2.no_at2 ‹_›)
       | (have hO := own2 ‹_›
          first
          | exact (hI.reset_own hO).2
          | exact (hI.trip_own hO).2
          | exact hI.no_r hO ‹_›
          | exact hI.no_t hO ‹_›
          | exact (hI.reset_own hO).2.no_f ‹_›
          | exact (hI.reset_own hO).2.no_h ‹_›
          | exact (hI.reset_own hO).2.no_at0 ‹_›
          | exact (hI.reset_own hO).2.no_at2 ‹_›
          | exact (hI.trip_own hO).2.no_f ‹_›
          | exact (hI.trip_own hO).2.no_h ‹_›
          | exact (hI.trip_own hO).2.no_at0 ‹_›
          | exact (hI.trip_own hO).2.no_at2 ‹_›)
       | (have hO := ownN ‹_› ‹_›
          first
          | exact hI.reset_far hO
          | exact hI.trip_far hO
          | exact (hI.reset_far hO).no_f ‹_›
          | exact (hI.reset_far hO).no_h ‹_›
          | exact (hI.reset_far hO).no_at0 ‹_›
          | exact (hI.reset_far hO).no_at2 ‹_›
          | exact (hI.trip_far hO).no_f ‹_›
          | exact (hI.trip_far hO).no_h ‹_›
          | exact (hI.trip_far hO).no_at0 ‹_›
          | exact (hI.trip_far hO).no_at2 ‹_›))
end Go.Wk.L14

namespace Go.Proofs.Ythemaknfhihphaa
open Go Go.Vs Go.Proofs Go.Wk.L14 Go.ChangeShapes Go.WideShapes Go.ChangeAt Go.RowKit
set_option linter.unusedSimpArgs false
set_option linter.unusedVariables false
set_option maxRecDepth 10000

theorem apartPs : pshs Try.prog Try.f5.params.toList = some [⟨false, [.row 32 [.int .i64, .int .i64, .int .i64, .row 37 [.bool, .int .i64, .bool]]]⟩] := by kernel_rfl

theorem apart_law : LawOk Try.prog Try.f5 1048576 := by
  intro ps hps args H ha
  obtain rfl := Option.some.inj (apartPs.symm.trans hps)
  simp only [ArgsSh] at ha
  obtain ⟨vs, H1, as', H2, a1, rfl, rfl, rfl, rfl⟩ := ha
  obtain ⟨o, ho, rfl, rfl⟩ := ops_arg a1
  exact ⟨Γa, LApart o, Γa_ok, apart_vc o ho⟩

theorem apart_contract (H : Type) (enc : TypeId × Value → H) (W : World) (base : Nat) (args : Array Value) (ds gs : List (DataW H)) (before : List MemPlace)
    (hval : ∀ (j : Nat) t v, Try.f5.params[j]? = some t → args[j]? = some v → Value.okWide Try.prog W .any base t v)
    (hW : DataW.Whole enc Try.prog Try.f5.params.toList Rows.latchApartSpec.vars false W args.toList ds gs before) (hk : Rows.uptoSmall H (ds ++ gs) = true) :
    Calls Try.prog 5 args W fun e W' => ∃ v, e = .returned v ∧ Rows.latchApartSpec.post enc Try.prog Try.f5 false true false false W args v W' :=
  law_contract (bulk H) hm Try.func5 apart_law apartPs hl hmr hfull (by kernel_rfl) (tb := 4) rfl Try.underlying4 rfl (fun ds hd => by
    match ds, hd with
    | [d1], _ => rfl) hval hW (bound hk)

set_option maxRecDepth 100000 in
theorem apart_lifted (os : Os) (started : os.Started) (H : Type) (enc : TypeId × Value → H) (F : Stop.Interp) :
    ReturnsInHanded {} Try.checked os 5 .any ((Rows.OpenSpec.upto Rows.latchApartSpec).pre6 enc Try.prog Try.f5 Rows.latchApartUptoRow.domain false) (((Rows.OpenSpec.upto Rows.latchApartSpec).at F).post enc Try.prog Try.f5 false true false false) := by
  refine returnsInHanded_of_cond (C := Try.checked) (s := Rows.OpenSpec.upto Rows.latchApartSpec) (k := Rows.uptoSmall) rfl own started (by kernel_rfl) Try.func5
    (OpenSpec.witness (enc := enc) (C := Try.checked) (s := Rows.OpenSpec.upto Rows.latchApartSpec) (k := Rows.uptoSmall) rfl false ⟨#[], #[.slice none 0 0], []⟩ 8 (by kernel_rfl) (by kernel_rfl) (by kernel_rfl)
      (x := ([.nil], [], [])) (by kernel_rfl) rfl (by kernel_rfl)) ?_
  intro W base args ds gs before hval hW _ hk _
  exact apart_contract H enc W base args ds gs before hval hW hk

theorem latchApart_holds : Rows.LatchApartUptoSaid :=
  OpenClaim.holds_of_cond 5 Try.f5 rfl rfl rfl rfl rfl rfl rfl ⟨rfl, rfl, rfl, rfl, rfl⟩ rfl rfl rfl rfl rfl (by kernel_rfl) Try.func5 (by kernel_rfl)
    (of_decide_eq_true (by kernel_rfl)) (by unfold Func.isWrapper; first | (rw [if_pos (by decide +kernel)]; kernel_rfl) | (rw [if_neg (by decide +kernel)]; exact ⟨rfl, rfl⟩))
    (fun os started H enc _ F => apart_lifted os started H enc F)
end Go.Proofs.Ythemaknfhihphaa
