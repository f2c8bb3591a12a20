/-
  The walk of PduBits, and its plain law; under the rows' own bounds.
-/
import Derived.Test.YtmbeekfbnfndgaaPm
namespace Go.Wk.P04
open Go Go.Vs Go.Proofs
set_option linter.unusedSimpArgs false
set_option linter.unusedVariables false
set_option maxRecDepth 10000

/-! PduBits -/
theorem ubit_of {a : Nat} (ha : a < 256) (k : Nat) : ubit (a : Int) k = if a.testBit (k % 8) then 1 else 0 := by
  unfold ubit
  have h1 : ((k : Int).tmod 8).toNat = k % 8 := by rw [Int.tmod_eq_emod_of_nonneg (by omega)]; omega
  have h2 : min (k % 8) IntKind.u8.bits = k % 8 := by show min (k % 8) 8 = _; omega
  rw [h1, h2, Int.fdiv_eq_ediv_of_nonneg _ (by exact Int.pow_nonneg (by decide))]
  have h3 : ((a : Int) / 2 ^ (k % 8)) = ((a / 2 ^ (k % 8) : Nat) : Int) := by
    rw [Int.natCast_ediv]; congr 1
  have hlt : a / 2 ^ (k % 8) < 256 := Nat.lt_of_le_of_lt (Nat.div_le_self ..) ha
  have h4 : (BitVec.ofInt IntKind.u8.bits ((a : Int) / 2 ^ (k % 8)) &&& BitVec.ofInt IntKind.u8.bits 1).toNat = (a / 2 ^ (k % 8)) % 2 := by
    rw [h3, BitVec.toNat_and, BitVec.toNat_ofInt, BitVec.toNat_ofInt]
    have e1 : (((a / 2 ^ (k % 8) : Nat) : Int) % ((2 ^ IntKind.u8.bits : Nat) : Int)).toNat = a / 2 ^ (k % 8) := by
      rw [show ((2 ^ IntKind.u8.bits : Nat) : Int) = 256 from rfl]
      generalize a / 2 ^ (k % 8) = q at hlt ⊢
      omega
    have e2 : ((1 : Int) % ((2 ^ IntKind.u8.bits : Nat) : Int)).toNat = 1 := rfl
    rw [e1, e2, Nat.and_one_is_mod]
  rw [h4, wrap_u8, wrap_u16]
  have h5 : a.testBit (k % 8) = decide (a / 2 ^ (k % 8) % 2 = 1) := Nat.testBit_eq_decide_div_mod_eq
  rw [h5]
  by_cases h : a / 2 ^ (k % 8) % 2 = 1
  · rw [if_pos (by simpa using h)]; omega
  · rw [if_neg (by simpa using h)]; omega
theorem bor_of {a : Nat} (ha : a < 256) (k : Nat) : bor (a : Int) k = ((a ||| 2 ^ (k % 8) : Nat) : Int) ∧ (a ||| 2 ^ (k % 8)) < 256 := by
  have hp : 2 ^ (k % 8) < 256 := by
    have : k % 8 < 8 := Nat.mod_lt _ (by decide)
    exact Nat.pow_lt_pow_right (by decide) this
  have hor : (a ||| 2 ^ (k % 8)) < 256 := Nat.or_lt_two_pow (n := 8) ha hp
  refine ⟨?_, hor⟩
  unfold bor
  have h1 : ((k : Int).tmod 8).toNat = k % 8 := by rw [Int.tmod_eq_emod_of_nonneg (by omega)]; omega
  have h2 : min (k % 8) IntKind.u8.bits = k % 8 := by show min (k % 8) 8 = _; omega
  rw [h1, h2, wrap_u8, wrap_u8]
  have h3 : (1 * 2 ^ (k % 8) : Int) % 256 = ((2 ^ (k % 8) : Nat) : Int) := by
    rw [Int.one_mul]
    have : ((2 : Int) ^ (k % 8)) = ((2 ^ (k % 8) : Nat) : Int) := by simp
    rw [this]
    generalize 2 ^ (k % 8) = q at hp ⊢
    omega
  rw [h3, BitVec.toNat_or, BitVec.toNat_ofInt, BitVec.toNat_ofInt]
  have e1 : ((a : Int) % ((2 ^ IntKind.u8.bits : Nat) : Int)).toNat = a := by
    rw [show ((2 ^ IntKind.u8.bits : Nat) : Int) = 256 from rfl]; omega
  have e2 : (((2 ^ (k % 8) : Nat) : Int) % ((2 ^ IntKind.u8.bits : Nat) : Int)).toNat = 2 ^ (k % 8) := by
    rw [show ((2 ^ IntKind.u8.bits : Nat) : Int) = 256 from rfl]
    generalize 2 ^ (k % 8) = q at hp ⊢
    omega
  rw [e1, e2]
  generalize (a ||| 2 ^ (k % 8)) = q at hor ⊢
  omega
/-- The bits of its bytes. -/
def tb (l : List Int) (i : Nat) : Bool := (l.getD (i / 8) 0).toNat.testBit (i % 8)
theorem bN_tb (f : Nat → Int) (n : Nat) : ∀ i, tb (bN f n) i = (decide (i < n) && !(f i == 0)) := by
  induction n with
  | zero => intro i; simp [tb, bN]
  | succ k ih =>
    intro i
    have hl := bN_length f k
    have ho : ∀ i, tb (bif k % 8 == 0 then bN f k ++ [0] else bN f k) i = tb (bN f k) i := by
      intro i
      cases h : k % 8 == 0 with
      | false => rfl
      | true =>
        simp only [cond_true, tb]
        by_cases hi : i / 8 < (bN f k).length
        · rw [List.getD_eq_getElem?_getD, List.getD_eq_getElem?_getD, List.getElem?_append_left hi]
        · rw [List.getD_eq_getElem?_getD, List.getD_eq_getElem?_getD, List.getElem?_append_right (by omega), List.getElem?_eq_none (l := bN f k) (by omega)]
          cases hd : i / 8 - (bN f k).length with
          | zero => rfl
          | succ d => rfl
    have hol : (bif k % 8 == 0 then bN f k ++ [0] else bN f k).length = (k + 1 + 7) / 8 := by
      cases h : k % 8 == 0 with
      | true => simp only [cond_true, List.length_append, hl, List.length_singleton]; simp at h; omega
      | false => simp only [cond_false, hl]; simp at h; omega
    have hin : ∀ j, 0 ≤ (bif k % 8 == 0 then bN f k ++ [0] else bN f k).getD j 0 ∧ (bif k % 8 == 0 then bN f k ++ [0] else bN f k).getD j 0 < 256 := by
      intro j
      rw [List.getD_eq_getElem?_getD]
      cases hj : (bif k % 8 == 0 then bN f k ++ [0] else bN f k)[j]? with
      | none => simp
      | some v =>
        simp only [Option.getD_some]
        have hm := List.mem_of_getElem? hj
        cases h : k % 8 == 0 with
        | true =>
          rw [h] at hm
          simp only [cond_true, List.mem_append, List.mem_singleton] at hm
          rcases hm with hm | rfl
          · exact bN_in f k v hm
          · omega
        | false => rw [h] at hm; exact bN_in f k v hm
    simp only [bN]
    generalize (bif k % 8 == 0 then bN f k ++ [0] else bN f k) = o at *
    cases hf : f k == 0 with
    | true =>
      simp only [cond_true]
      rw [ho, ih]
      by_cases hik : i = k
      · subst hik; simp [hf]
      · have : decide (i < k + 1) = decide (i < k) := by rw [decide_eq_decide]; omega
        rw [this]
    | false =>
      simp only [cond_false]
      obtain ⟨h0, h1⟩ := hin (k / 8)
      obtain ⟨a, ha⟩ := Int.eq_ofNat_of_zero_le h0
      have ha' : a < 256 := by omega
      have hb := bor_of ha' k
      by_cases hd : i / 8 = k / 8
      · have e1 : tb (o.set (k / 8) (bor (o.getD (k / 8) 0) k)) i = (tb o i || decide (i = k)) := by
          simp only [tb, hd]
          rw [getD_set, if_pos ⟨rfl, by omega⟩, ha, hb.1]
          simp only [Int.toNat_natCast]
          rw [Nat.testBit_or, Nat.testBit_two_pow]
          congr 1
          rw [decide_eq_decide]
          omega
        rw [e1, ho, ih]
        by_cases hik : i = k
        · subst hik; simp [hf]
        · have : decide (i < k + 1) = decide (i < k) := by rw [decide_eq_decide]; omega
          rw [this, decide_eq_false hik, Bool.or_false]
      · have e1 : tb (o.set (k / 8) (bor (o.getD (k / 8) 0) k)) i = tb o i := by
          simp only [tb]
          rw [getD_set, if_neg (by omega)]
        rw [e1, ho, ih]
        have : decide (i < k + 1) = decide (i < k) := by rw [decide_eq_decide]; omega
        rw [this]
theorem ubit_tb {l : List Int} (h : ∀ v ∈ l, 0 ≤ v ∧ v < 256) (i : Nat) : ubit (l.getD (i / 8) 0) i = if tb l i then 1 else 0 := by
  have h0 : 0 ≤ l.getD (i / 8) 0 ∧ l.getD (i / 8) 0 < 256 := by
    rw [List.getD_eq_getElem?_getD]
    cases hj : l[i / 8]? with
    | none => simp
    | some v => exact h v (List.mem_of_getElem? hj)
  obtain ⟨a, ha⟩ := Int.eq_ofNat_of_zero_le h0.1
  simp only [tb, ha, Int.toNat_natCast]
  exact ubit_of (by omega) i
theorem bN_ubit {f : Nat → Int} {n i : Nat} (h : i < n) : ubit ((bN f n).getD (i / 8) 0) i = if f i == 0 then 0 else 1 := by
  rw [ubit_tb (bN_in f n), bN_tb, decide_eq_true h, Bool.true_and]
  cases f i == 0 <;> rfl
theorem tb_ext {a b : List Int} (ha : ∀ v ∈ a, 0 ≤ v ∧ v < 256) (hb : ∀ v ∈ b, 0 ≤ v ∧ v < 256) (hl : a.length = b.length) (h : ∀ i, tb a i = tb b i) : a = b := by
  refine List.ext_getElem hl fun j h1 h2 => ?_
  have ga := ha _ (List.getElem_mem h1)
  have gb := hb _ (List.getElem_mem h2)
  have e : a[j].toNat = b[j].toNat := by
    apply Nat.eq_of_testBit_eq
    intro t
    by_cases ht : t < 8
    · have := h (8 * j + t)
      simp only [tb, show (8 * j + t) / 8 = j by omega, show (8 * j + t) % 8 = t by omega] at this
      simpa [List.getD_eq_getElem?_getD, h1, h2] using this
    · rw [Nat.testBit_lt_two_pow, Nat.testBit_lt_two_pow]
      · exact Nat.lt_of_lt_of_le (by omega) (Nat.pow_le_pow_right (by decide) (by omega : 8 ≤ t))
      · exact Nat.lt_of_lt_of_le (by omega) (Nat.pow_le_pow_right (by decide) (by omega : 8 ≤ t))
  omega
theorem bN_back {l : List Int} (h : ∀ v ∈ l, 0 ≤ v ∧ v < 256) {f : Nat → Int} (hf : ∀ i, i < 8 * l.length → f i = ubit (l.getD (i / 8) 0) i) : bN f (8 * l.length) = l := by
  refine tb_ext (bN_in _ _) h (by rw [bN_length]; omega) fun i => ?_
  rw [bN_tb]
  by_cases hi : i < 8 * l.length
  · rw [decide_eq_true hi, Bool.true_and, hf i hi, ubit_tb h]
    cases tb l i <;> rfl
  · rw [decide_eq_false hi, Bool.false_and]
    simp only [tb]
    rw [List.getD_eq_getElem?_getD, List.getElem?_eq_none (by omega)]; simp
theorem bit_agree (v : Int) : ((v != 0) == ((if (v == 0) = true then (0 : Int) else 1) == 1)) = true := by
  unfold bne
  cases v == 0 <;> rfl
theorem bit_low (v : Int) : ¬ (if (v == 0) = true then (0 : Int) else 1) > 1 := by split <;> decide
theorem nl_or {b : SS} (h : BOk b) : b.nl = false ∨ b.n = 0 := by
  cases hb : b.nl with
  | false => exact .inl rfl
  | true => exact .inr (h.nil hb)
theorem nlz (n : Nat) : Nat.beq (8 * n) 0 = false ∨ (8 * n + 7) / 8 = 0 := by
  cases n with
  | zero => exact .inr rfl
  | succ n => exact .inl rfl
theorem uL_in (x : SS) (n k : Nat) : ∀ v ∈ uL x n k, 0 ≤ v ∧ v < 65536 := by
  intro v hv
  simp only [uL, mix, tab, List.mem_map, List.mem_range] at hv
  obtain ⟨j, _, rfl⟩ := hv
  split
  · exact ubit_in ..
  · omega
theorem back_b {b : SS} (hb : BOk b) (nl rw : Bool) (m c r : Nat) : List.take ((8 * b.n + 7) / 8) (bN (SS.get ⟨nl, rw, 0, 8 * b.n, c, r, m, uL b (8 * b.n) (8 * b.n)⟩) (8 * b.n)) = List.take b.n (List.drop b.off b.l) := by
  have hv := SS.val_len hb
  have e : bN (SS.get ⟨nl, rw, 0, 8 * b.n, c, r, m, uL b (8 * b.n) (8 * b.n)⟩) (8 * b.val.length) = b.val := bN_back (SS.val_in hb) fun i hi => by
    rw [hv] at hi
    simp only [SS.get, Nat.zero_add]
    rw [uL, mix_getD _ _ _ hi, if_pos hi]
    rw [SS.val_getD (by omega)]; rfl
  rw [hv] at e
  rw [e, List.take_of_length_le (by rw [hv]; omega)]; rfl
end Go.Wk.P04
