/-
  Get; under the rows' own bounds.
-/
import Derived.Test.YtmbeekfbnfndgaaPk
namespace Go.Wk.P04
open Go Go.Vs Go.Proofs
set_option linter.unusedSimpArgs false
set_option linter.unusedVariables false
set_option maxRecDepth 10000

/-! Get -/
theorem wor_of {a b : Int} (ha : 0 ≤ a ∧ a < 256) (hb : 0 ≤ b ∧ b < 256) : wor a b = a * 256 + b := by
  obtain ⟨a, rfl⟩ := Int.eq_ofNat_of_zero_le ha.1
  obtain ⟨b, rfl⟩ := Int.eq_ofNat_of_zero_le hb.1
  have e1 : IntKind.i64.wrap (a : Int) = a := IntWalk.i64_in _ (by omega)
  have e2 : IntKind.i64.wrap (b : Int) = b := IntWalk.i64_in _ (by omega)
  have e3 : (2 : Int) ^ min (Int.toNat 8) IntKind.i64.bits = 256 := rfl
  have e4 : IntKind.i64.wrap ((a : Int) * 256) = ((a * 256 : Nat) : Int) := by rw [IntWalk.i64_in _ (by omega)]; omega
  unfold wor
  rw [e1, e2, e3, e4]
  have e5 : (BitVec.ofInt IntKind.i64.bits ((a * 256 : Nat) : Int) ||| BitVec.ofInt IntKind.i64.bits ((b : Nat) : Int)).toNat = a * 256 + b := by
    rw [BitVec.toNat_or, BitVec.toNat_ofInt, BitVec.toNat_ofInt]
    have h1 : (((a * 256 : Nat) : Int) % ((2 ^ IntKind.i64.bits : Nat) : Int)).toNat = a * 256 := by
      rw [show ((2 ^ IntKind.i64.bits : Nat) : Int) = 18446744073709551616 from rfl]; omega
    have h2 : (((b : Nat) : Int) % ((2 ^ IntKind.i64.bits : Nat) : Int)).toNat = b := by
      rw [show ((2 ^ IntKind.i64.bits : Nat) : Int) = 18446744073709551616 from rfl]; omega
    rw [h1, h2, show a * 256 = a <<< 8 by rw [Nat.shiftLeft_eq]]
    rw [← Nat.shiftLeft_add_eq_or_of_lt (by omega)]
  rw [e5, IntWalk.i64_in _ (by omega)]; omega
theorem wordW_in {x : SS} (h : BOk x) : 0 ≤ wordW x ∧ wordW x < 65536 := by
  unfold wordW
  cases hs : shortW x with
  | true => simp
  | false =>
    have : ¬ x.n < 2 := of_decide_eq_false hs
    have h0 := h.at_ 0 (by omega)
    have h1 := h.at_ 1 (by omega)
    simp only [cond_false, SS.get]
    rw [wor_of h0 h1]
    omega
def vG (k : Kd) (x : SS) (y : Nat × Nat) : SS := ⟨nlG k x, true, 0, (valsG k x).length, (valsG k x).length + y.1, (valsG k x).length + y.1 + y.2, (valsG k x).length, valsG k x⟩
def rqG (k : Kd) (x : SS) (y : Nat × Nat) : Rq := ⟨IntKind.i64.wrap (x.get 0), wordW (atHd x (hd0 x)), qtyG k x, vG k x y, toG k x⟩
def putG (k : Kd) (x : SS) (y : Nat × Nat) : SS := ⟨false, true, 0, (putB k (rqG k x (0, 0))).length, (putB k (rqG k x (0, 0))).length + y.1, (putB k (rqG k x (0, 0))).length + y.1 + y.2, (putB k (rqG k x (0, 0))).length, putB k (rqG k x (0, 0))⟩
def kG (x : SS) : Kd := kdAt (IntKind.i64.wrap (x.get 0))
def codeG (x : SS) : Int :=
  bif Nat.beq x.n 0 then 1 else bif !(kdOf (IntKind.i64.wrap (x.get 0))).isSome then 1 else
  bif !(shaped (kG x) (rqG (kG x) x (0, 0))) then 3 else bif !(same (putG (kG x) x (0, 0)) x) then 3 else
  bif !(ends (kG x) (rqG (kG x) x (0, 0))) then 2 else 0
def okG (x : SS) : Bool := codeG x == 0
def oz (b : Bool) (n : Int) : Int := bif b then n else 0
def valsO (x : SS) : List Int := bif okG x then valsG (kG x) x else []
theorem u1_in {l : List Int} (h : ∀ v ∈ l, 0 ≤ v ∧ v < 65536) : ∀ v ∈ u1 l, 0 ≤ v ∧ v < 65536 := by
  intro v hv
  cases l with
  | nil => exact h v hv
  | cons a l =>
    have ha := h a (List.mem_cons_self ..)
    rw [u1_pos _ (by simp)] at hv
    simp only [List.set_cons_zero, List.getD_cons_zero, List.mem_cons] at hv
    rcases hv with rfl | hv
    · split <;> omega
    · exact h v (List.mem_cons_of_mem _ hv)
theorem uwN_in (f : Nat → Int) (k : Nat) : ∀ v ∈ uwN f k, 0 ≤ v ∧ v < 65536 := by
  induction k with
  | zero => intro v hv; cases hv
  | succ k ih =>
    intro v hv
    simp only [uwN, List.mem_append, List.mem_singleton] at hv
    rcases hv with hv | rfl
    · exact ih v hv
    · rw [wrap_u16]; omega
theorem ubit_in (a : Int) (k : Nat) : 0 ≤ ubit a k ∧ ubit a k < 65536 := by
  unfold ubit; rw [wrap_u16]; omega
theorem ub_in (x : SS) (n : Int) : ∀ v ∈ ub x n, 0 ≤ v ∧ v < 65536 := by
  intro v hv
  simp only [ub, uL, mix, tab, List.mem_map, List.mem_range] at hv
  obtain ⟨j, _, rfl⟩ := hv
  split
  · exact ubit_in ..
  · omega
theorem lenU_le (n : Int) : lenU n ≤ 65536 := by
  unfold lenU inU
  cases h : (decide (0 ≤ n) && decide (n ≤ 65536)) with
  | false => simp
  | true => simp only [Bool.and_eq_true, decide_eq_true_eq] at h; simp only [cond_true]; omega
theorem vG_ok {k : Kd} {x : SS} (hx : BOk x) (hn : 0 < x.n) (y : Nat × Nat) : WOk (vG k x y) := by
  have b0 : BOk (atHd x (hd0 x)) := tl_ok hx hn
  have b1 : BOk (atHd x (nextH (hd0 x))) := nextW_ok b0
  have b2 : BOk (atHd x (nextH (nextH (hd0 x)))) := nextW_ok b1
  have b3 : BOk (atHd x (nextH (nextH (nextH (hd0 x))))) := nextW_ok b2
  have b4 : BOk (atHd x (nextH (nextH (nextH (nextH (hd0 x)))))) := nextW_ok b3
  have b5 := rest_ok' b2
  have b6 := rest_ok' b4
  have hl : (valsG k x).length ≤ 2000000 ∧ (∀ v ∈ valsG k x, 0 ≤ v ∧ v < 65536) ∧ (nlG k x = true → (valsG k x).length = 0) := by
    unfold valsG nlG
    cases k.most == 0 with
    | true =>
      simp only [cond_true]
      have := b1.n
      cases k.bits with
      | true => simp only [cond_true, u1_length, uw_length]; exact ⟨by omega, u1_in (uwN_in _ _), fun h => Nat.eq_of_beq_eq_true h⟩
      | false => simp only [cond_false, uw_length]; exact ⟨by omega, uwN_in _ _, fun h => Nat.eq_of_beq_eq_true h⟩
    | false =>
      simp only [cond_false]
      cases k.to with
      | true => have := b6.n; simp only [cond_true, uw_length]; exact ⟨by omega, uwN_in _ _, fun h => Nat.eq_of_beq_eq_true h⟩
      | false =>
        simp only [cond_false]
        cases k.all with
        | false => simp
        | true =>
          simp only [Bool.true_and, cond_true]
          cases k.bits with
          | true =>
            simp only [cond_true, ub_length]
            refine ⟨Nat.le_trans (lenU_le _) (by omega), ub_in _ _, fun h => ?_⟩
            have : inU (qtyG k x) = false := by simpa using h
            simp [lenU, this]
          | false => have := b5.n; simp only [cond_false, uw_length]; exact ⟨by omega, uwN_in _ _, fun h => Nat.eq_of_beq_eq_true h⟩
  exact newOk rfl hl.1 hl.2.1 hl.2.2
theorem rqG_ok {k : Kd} {x : SS} (hx : BOk x) (hn : 0 < x.n) (y : Nat × Nat) : RqOk (rqG k x y) := by
  have b0 : BOk (atHd x (hd0 x)) := tl_ok hx hn
  have b1 : BOk (atHd x (nextH (hd0 x))) := nextW_ok b0
  have b2 : BOk (atHd x (nextH (nextH (hd0 x)))) := nextW_ok b1
  have w0 := wordW_in b0
  have w1 := wordW_in b1
  have w2 := wordW_in b2
  have h0 := hx.at_ 0 hn
  have e0 : IntKind.i64.wrap (x.get 0) = x.get 0 := IntWalk.i64_in _ (by simp only [SS.get]; omega)
  refine ⟨?_, ?_, ?_, ?_, vG_ok hx hn y⟩ <;> simp only [rqG, I64]
  · rw [e0]; simp only [SS.get]; omega
  · omega
  · unfold qtyG; cases k.most == 0 <;> simp <;> omega
  · unfold toG; cases k.most == 0 <;> cases k.to <;> simp <;> omega
theorem kd_fold (n : Int) : (⟨kMost (.int .i64 n), kLeast (.int .i64 n), kMore (.int .i64 n), kAll (.int .i64 n), kReads (.int .i64 n), kBits (.int .i64 n), kTo (.int .i64 n)⟩ : Kd) = kdAt n := rfl
theorem get0_fold (x : SS) : x.l.getD (x.off + Int.toNat 0) 0 = x.get 0 := rfl
theorem kG_fold (x : SS) : kdAt (IntKind.i64.wrap (x.get 0)) = kG x := rfl
theorem khas_fold (n : Int) : kHas (.int .i64 n) = (kdOf n).isSome := rfl
theorem rq_fold (k : Kd) (x : SS) (c r : Nat) : (⟨IntKind.i64.wrap (x.get 0), wordW (atHd x (hd0 x)), qtyG k x, ⟨nlG k x, true, 0, (valsG k x).length, (valsG k x).length + c, (valsG k x).length + c + r, (valsG k x).length, valsG k x⟩, toG k x⟩ : Rq) = rqG k x (c, r) := rfl
theorem shaped_y (k : Kd) (x : SS) (c r : Nat) : shaped k (rqG k x (c, r)) = shaped k (rqG k x (0, 0)) := rfl
theorem ends_y (k : Kd) (x : SS) (c r : Nat) : ends k (rqG k x (c, r)) = ends k (rqG k x (0, 0)) := rfl
theorem putB_y (k : Kd) (x : SS) (c r : Nat) : putB k (rqG k x (c, r)) = putB k (rqG k x (0, 0)) := rfl
theorem put_fold (k : Kd) (x : SS) (c r : Nat) : (⟨false, true, 0, (putB k (rqG k x (0, 0))).length, (putB k (rqG k x (0, 0))).length + c, (putB k (rqG k x (0, 0))).length + c + r, (putB k (rqG k x (0, 0))).length, putB k (rqG k x (0, 0))⟩ : SS) = putG k x (c, r) := rfl
theorem same_y (k : Kd) (x : SS) (c r : Nat) : same (putG k x (c, r)) x = same (putG k x (0, 0)) x := rfl
theorem code1a {x : SS} (h : ((x.n : Int) == 0) = true) : codeG x = 1 := by
  have : x.n = 0 := by simpa using h
  rw [codeG, this]; rfl
theorem code0 {x : SS} (h : ((x.n : Int) == 0) = false) : Nat.beq x.n 0 = false := by
  have : x.n ≠ 0 := by simpa using h
  cases hn : x.n with | zero => omega | succ n => rfl
theorem code1b {x : SS} (h : ((x.n : Int) == 0) = false) (h1 : (kdOf (IntKind.i64.wrap (x.get 0))).isSome = false) : codeG x = 1 := by
  simp only [codeG, code0 h, h1, cond_false, Bool.not_false, cond_true]
theorem code3a {x : SS} (h : ((x.n : Int) == 0) = false) (h1 : (kdOf (IntKind.i64.wrap (x.get 0))).isSome = true) (h2 : shaped (kG x) (rqG (kG x) x (0, 0)) = false) : codeG x = 3 := by
  simp only [codeG, code0 h, h1, h2, cond_false, Bool.not_false, Bool.not_true, cond_true]
theorem code3b {x : SS} (h : ((x.n : Int) == 0) = false) (h1 : (kdOf (IntKind.i64.wrap (x.get 0))).isSome = true) (h2 : shaped (kG x) (rqG (kG x) x (0, 0)) = true) (h3 : same (putG (kG x) x (0, 0)) x = false) : codeG x = 3 := by
  simp only [codeG, code0 h, h1, h2, h3, cond_false, Bool.not_false, Bool.not_true, cond_true]
theorem code2 {x : SS} (h : ((x.n : Int) == 0) = false) (h1 : (kdOf (IntKind.i64.wrap (x.get 0))).isSome = true) (h2 : shaped (kG x) (rqG (kG x) x (0, 0)) = true) (h3 : same (putG (kG x) x (0, 0)) x = true) (h4 : ends (kG x) (rqG (kG x) x (0, 0)) = false) : codeG x = 2 := by
  simp only [codeG, code0 h, h1, h2, h3, h4, cond_false, Bool.not_false, Bool.not_true, cond_true]
theorem code00 {x : SS} (h : ((x.n : Int) == 0) = false) (h1 : (kdOf (IntKind.i64.wrap (x.get 0))).isSome = true) (h2 : shaped (kG x) (rqG (kG x) x (0, 0)) = true) (h3 : same (putG (kG x) x (0, 0)) x = true) (h4 : ends (kG x) (rqG (kG x) x (0, 0)) = true) : codeG x = 0 := by
  simp only [codeG, code0 h, h1, h2, h3, h4, cond_false, Bool.not_false, Bool.not_true, cond_true]
theorem w1_in (n : Int) : ∀ v ∈ w1 n, 0 ≤ v ∧ v < 256 := by
  intro v hv
  simp only [w1, List.mem_cons, List.not_mem_nil, or_false] at hv
  rcases hv with rfl | rfl <;> omega
theorem putB_in (k : Kd) (q : Rq) : ∀ v ∈ putB k q, 0 ≤ v ∧ v < 256 := by
  have o1 : ∀ n : Int, ∀ v ∈ [n % 256], 0 ≤ v ∧ v < 256 := fun n v hv => by
    simp only [List.mem_singleton] at hv; subst hv; omega
  have ap : ∀ {a b : List Int}, (∀ v ∈ a, 0 ≤ v ∧ v < 256) → (∀ v ∈ b, 0 ≤ v ∧ v < 256) → ∀ v ∈ a ++ b, 0 ≤ v ∧ v < 256 := fun ha hb v hv => by
    rcases List.mem_append.1 hv with h | h
    · exact ha v h
    · exact hb v h
  unfold putB
  cases q.fc == 5
  rotate_left
  · exact ap (ap (o1 _) (w1_in _)) (w1_in _)
  simp only [cond_false]
  cases k.most == 0
  rotate_left
  · exact ap (ap (o1 _) (w1_in _)) (wN_in _ _)
  simp only [cond_false]
  cases k.to
  rotate_left
  · exact ap (ap (ap (ap (ap (ap (o1 _) (w1_in _)) (w1_in _)) (w1_in _)) (w1_in _)) (o1 _)) (wN_in _ _)
  simp only [cond_false]
  cases k.all
  · exact ap (ap (o1 _) (w1_in _)) (w1_in _)
  cases k.bits
  · exact ap (ap (ap (ap (o1 _) (w1_in _)) (w1_in _)) (o1 _)) (wN_in _ _)
  · exact ap (ap (ap (ap (o1 _) (w1_in _)) (w1_in _)) (o1 _)) (bN_in _ _)
theorem kdAt_more (n : Int) : (kdAt n).all = false → (kdAt n).more ≤ 121 := by
  rcases kcases n with h | h | h | h | h | h | h | h | h | h | ⟨h1, h2, h3, h4, h5, h6, h7, h8, h9, h10⟩ <;> first
    | (subst h; decide)
    | (simp only [kdAt, kdOf, h1, h2, h3, h4, h5, h6, h7, h8, h9, h10, if_false]; decide)
theorem putB_len {n : Int} {q : Rq} (hs : shaped (kdAt n) q = true) : (putB (kdAt n) q).length ≤ 4010 := by
  have h1 := kdAt_most n
  have h2 := kdAt_more n
  have hn : q.v.n ≤ 2000 := by
    simp only [shaped, Bool.and_eq_true, Bool.or_eq_true, decide_eq_true_eq, beq_iff_eq] at hs
    obtain ⟨_, g1, ⟨g2, g3⟩, _⟩ := hs
    cases ha : (kdAt n).all with
    | true => rw [ha] at g2 g3; simp only [cond_true] at g2 g3; omega
    | false => have := h2 ha; rw [ha] at g3; simp only [cond_false] at g3; omega
  unfold putB
  cases q.fc == 5 <;> cases (kdAt n).most == 0 <;> cases (kdAt n).to <;> cases (kdAt n).all <;> cases (kdAt n).bits <;> simp only [cond_true, cond_false, Bool.and_true, Bool.and_false, List.length_append, List.length_cons, List.length_nil, w1_length, wN_length, bN_length] <;> omega
theorem putG_ok {x : SS} (h2 : shaped (kG x) (rqG (kG x) x (0, 0)) = true) (y : Nat × Nat) : BOk (putG (kG x) x y) :=
  newOk rfl (Nat.le_trans (putB_len h2) (by omega)) (putB_in _ _) (fun h => by cases h)
end Go.Wk.P04
