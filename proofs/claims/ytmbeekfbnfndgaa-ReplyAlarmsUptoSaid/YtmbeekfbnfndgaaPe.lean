/-
  The reader of words; under the rows' own bounds.
-/
import Derived.Test.YtmbeekfbnfndgaaPd
namespace Go.Wk.P04
open Go Go.Vs Go.Proofs
set_option linter.unusedSimpArgs false
set_option linter.unusedVariables false
set_option maxRecDepth 10000

/-! the reader -/
def shortW (x : SS) : Bool := decide (x.n < 2)
/-- A slice's head. -/
structure H4 where
  nl : Bool
  off : Nat
  n : Nat
  cap : Nat
def nextH (h : H4) : H4 := bif decide (h.n < 2) then ⟨true, 0, 0, 0⟩ else ⟨h.nl, h.off + cutOff h.cap 2, h.n - 2, h.cap - 2⟩
def nextW (x : SS) : SS := { x with nl := (nextH ⟨x.nl, x.off, x.n, x.cap⟩).nl, off := (nextH ⟨x.nl, x.off, x.n, x.cap⟩).off, n := (nextH ⟨x.nl, x.off, x.n, x.cap⟩).n, cap := (nextH ⟨x.nl, x.off, x.n, x.cap⟩).cap }
theorem nextW_short {x : SS} (h : shortW x = true) : nextW x = { x with nl := true, off := 0, n := 0, cap := 0 } := by
  simp only [nextW, nextH, show decide (x.n < 2) = true from h, cond_true]
theorem nextW_long {x : SS} (h : shortW x = false) : nextW x = { x with off := x.off + cutOff x.cap 2, n := x.n - 2, cap := x.cap - 2 } := by
  simp only [nextW, nextH, show decide (x.n < 2) = false from h, cond_false]
def wor (a b : Int) : Int := IntKind.i64.wrap ↑(BitVec.ofInt IntKind.i64.bits (IntKind.i64.wrap (IntKind.i64.wrap a * 2 ^ min (Int.toNat 8) IntKind.i64.bits)) ||| BitVec.ofInt IntKind.i64.bits (IntKind.i64.wrap b)).toNat
def wordW (x : SS) : Int := bif shortW x then 0 else wor (x.get 0) (x.get 1)
theorem nextW_ok {x : SS} (h : BOk x) : BOk (nextW x) := by
  obtain ⟨h1, h2, h3, h4, h5, h6, h7⟩ := h
  cases hs : shortW x with
  | true =>
    refine ⟨?_, ?_, ?_, ?_, ?_, ?_, ?_⟩ <;> simp only [nextW_short hs] <;> first | exact h1 | omega | (intro i hi; omega) | exact fun _ => rfl | exact fun _ => trivial | simp
  | false =>
    have := of_decide_eq_false hs
    refine ⟨?_, ?_, ?_, ?_, ?_, ?_, ?_⟩ <;> simp only [nextW_long hs]
    · exact h1
    · unfold cutOff; split <;> omega
    · omega
    · omega
    · unfold cutOff; split <;> omega
    · intro h; have := h6 h; omega
    · intro i hi; have := h7 (i + 2) (by omega); rw [show x.off + cutOff x.cap 2 + i = x.off + (i + 2) by unfold cutOff; split <;> omega]; exact this
/-! rest -/
def mW (x : SS) : Nat := min x.n 1
def restH (h : H4) : H4 := bif Nat.beq h.n 0 then h else ⟨h.nl, h.off + cutOff h.cap 1, h.n - 1, h.cap - 1⟩
def restW (x : SS) : SS := { x with nl := (restH ⟨x.nl, x.off, x.n, x.cap⟩).nl, off := (restH ⟨x.nl, x.off, x.n, x.cap⟩).off, n := (restH ⟨x.nl, x.off, x.n, x.cap⟩).n, cap := (restH ⟨x.nl, x.off, x.n, x.cap⟩).cap }
theorem restH_same (nl : Bool) (off n cap : Nat) : (restH ⟨nl, off, n, cap⟩).nl = nl ∧ (restH ⟨nl, off, n, cap⟩).n = n - min n 1 ∧ (restH ⟨nl, off, n, cap⟩).cap = cap - min n 1 ∧ (restH ⟨nl, off, n, cap⟩).off = off + cutOff cap (min n 1) := by
  unfold restH
  cases h : Nat.beq n 0 with
  | true =>
    have h0 : n = 0 := Nat.eq_of_beq_eq_true h
    have h1 : min n 1 = 0 := by rw [h0]; rfl
    refine ⟨rfl, ?_, ?_, ?_⟩ <;> simp only [cond_true, h1, Nat.sub_zero, cutOff, ite_self, Nat.add_zero]
  | false =>
    have h1 : min n 1 = 1 := by
      have : n ≠ 0 := fun e => by rw [e] at h; cases h
      omega
    refine ⟨rfl, ?_, ?_, ?_⟩ <;> simp only [cond_false, h1]
/-! unwords -/
def uwN (f : Nat → Int) : Nat → List Int
  | 0 => []
  | k + 1 => uwN f k ++ [IntKind.u16.wrap (wor (f (2 * k)) (f (2 * k + 1)))]
def advH (x : SS) : Nat → H4
  | 0 => ⟨x.nl, x.off, x.n, x.cap⟩
  | k + 1 => nextH (advH x k)
def advW (x : SS) (k : Nat) : SS := { x with nl := (advH x k).nl, off := (advH x k).off, n := (advH x k).n, cap := (advH x k).cap }
theorem advW_succ (x : SS) (k : Nat) : advW x (k + 1) = nextW (advW x k) := rfl
theorem advW_ok {x : SS} (h : BOk x) : ∀ k, BOk (advW x k)
  | 0 => h
  | k + 1 => nextW_ok (advW_ok h k)
theorem advW_at {x : SS} (h : BOk x) : ∀ k, 2 * k ≤ x.n → (advW x k).n = x.n - 2 * k ∧ (2 * k < x.n → ∀ j, (advW x k).get j = x.get (2 * k + j))
  | 0, _ => ⟨rfl, fun _ j => by simp [advW, advH, SS.get]⟩
  | k + 1, hk => by
    obtain ⟨h1, h2⟩ := advW_at h k (by omega)
    have hs : shortW (advW x k) = false := decide_eq_false (by omega)
    have hc := (advW_ok h k).cap
    refine ⟨by simp only [advW_succ, nextW_long hs]; omega, fun hlt j => ?_⟩
    have := h2 (by omega) (j + 2)
    rw [show 2 * (k + 1) + j = 2 * k + (j + 2) by omega, ← this]
    simp only [SS.get, advW_succ, nextW_long hs, cutOff]
    rw [if_neg (by omega)]
    congr 1; omega
theorem advW_word {x : SS} (h : BOk x) {k : Nat} (hk : 2 * k + 1 < x.n) : wordW (advW x k) = wor (x.get (2 * k)) (x.get (2 * k + 1)) := by
  obtain ⟨h1, h2⟩ := advW_at h k (by omega)
  have hs : shortW (advW x k) = false := decide_eq_false (by omega)
  simp only [wordW, hs, cond_false, h2 (by omega), Nat.add_zero]
theorem uwN_length (f : Nat → Int) (k : Nat) : (uwN f k).length = k := by
  induction k with
  | zero => rfl
  | succ k ih => simp [uwN, ih]
end Go.Wk.P04
