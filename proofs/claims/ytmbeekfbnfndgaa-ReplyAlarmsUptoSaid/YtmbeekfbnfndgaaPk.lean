/-
  The request of a kind; under the rows' own bounds.
-/
import Derived.Test.YtmbeekfbnfndgaaPj
namespace Go.Wk.P04
open Go Go.Vs Go.Proofs
set_option linter.unusedSimpArgs false
set_option linter.unusedVariables false
set_option maxRecDepth 10000

/-! get -/
/-- What is behind the first byte; what is left behind so many words. -/
def tl (x : SS) : SS := { x with off := x.off + cutOff x.cap 1, n := x.n - 1, cap := x.cap - 1 }
theorem tl_ok {x : SS} (h : BOk x) (hn : 0 < x.n) : BOk (tl x) := by
  obtain ⟨h1, h2, h3, h4, h5, h6, h7⟩ := h
  refine ⟨h1, ?_, ?_, ?_, ?_, ?_, ?_⟩ <;> simp only [tl]
  · unfold cutOff; split <;> omega
  · omega
  · omega
  · unfold cutOff; split <;> omega
  · intro h; have := h6 h; omega
  · intro i hi; have := h7 (i + 1) (by omega); rw [show x.off + cutOff x.cap 1 + i = x.off + (i + 1) by unfold cutOff; split <;> omega]; exact this
/-- x's region under another head; the head behind the first byte. -/
def atHd (x : SS) (h : H4) : SS := ⟨h.nl, x.rw, h.off, h.n, h.cap, x.room, x.m, x.l⟩
def hd0 (x : SS) : H4 := ⟨x.nl, x.off + cutOff x.cap (Int.toNat 1), x.n - 1, x.cap - 1⟩
theorem at_fold (x : SS) (h : H4) : SS.mk h.nl x.rw h.off h.n h.cap x.room x.m x.l = atHd x h := rfl
theorem at0_fold (x : SS) : SS.mk x.nl x.rw (x.off + cutOff x.cap (Int.toNat 1)) (x.n - 1) (x.cap - 1) x.room x.m x.l = atHd x (hd0 x) := rfl
theorem hd0_fold (x : SS) : (⟨x.nl, x.off + cutOff x.cap (Int.toNat 1), x.n - 1, x.cap - 1⟩ : H4) = hd0 x := rfl
theorem at_tl (x : SS) : atHd x (hd0 x) = tl x := rfl
theorem at_next (x : SS) (h : H4) : atHd x (nextH h) = nextW (atHd x h) := rfl
theorem at_n (x : SS) (h : H4) : (atHd x h).n = h.n := rfl
theorem at_cap (x : SS) (h : H4) : (atHd x h).cap = h.cap := rfl
def qtyG (k : Kd) (x : SS) : Int := bif k.most == 0 then 0 else wordW (atHd x (nextH (hd0 x)))
def toG (k : Kd) (x : SS) : Int := bif k.most == 0 then 0 else bif k.to then wordW (atHd x (nextH (nextH (hd0 x)))) else 0
def u1 (l : List Int) : List Int := bif Nat.beq l.length 0 then l else l.set 0 (if 1 < l.getD 0 0 then 1 else l.getD 0 0)
def uw (x : SS) : List Int := uwN x.get (x.n / 2)
def ub (x : SS) (n : Int) : List Int := uL x (lenU n) (topU x n)
def valsG (k : Kd) (x : SS) : List Int :=
  bif k.most == 0 then (bif k.bits then u1 (uw (atHd x (nextH (hd0 x)))) else uw (atHd x (nextH (hd0 x)))) else
  bif k.to then uw (atHd x (restH (nextH (nextH (nextH (nextH (hd0 x))))))) else
  bif k.all && k.bits then ub (atHd x (restH (nextH (nextH (hd0 x))))) (qtyG k x) else
  bif k.all then uw (atHd x (restH (nextH (nextH (hd0 x))))) else []
def nlG (k : Kd) (x : SS) : Bool :=
  bif k.most == 0 then Nat.beq ((nextH (hd0 x)).n / 2) 0 else
  bif k.to then Nat.beq ((restH (nextH (nextH (nextH (nextH (hd0 x)))))).n / 2) 0 else
  bif k.all && k.bits then !inU (qtyG k x) else
  bif k.all then Nat.beq ((restH (nextH (nextH (hd0 x)))).n / 2) 0 else true
theorem uw_length (x : SS) : (uw x).length = x.n / 2 := uwN_length ..
theorem u1_length (l : List Int) : (u1 l).length = l.length := by
  unfold u1; cases Nat.beq l.length 0 <;> simp
theorem u1_pos (l : List Int) (h : 0 < l.length) : u1 l = l.set 0 (if 1 < l.getD 0 0 then 1 else l.getD 0 0) := by
  have : Nat.beq l.length 0 = false := by cases hl : l.length with | zero => omega | succ n => rfl
  simp only [u1, this, cond_false]
theorem u1_none (l : List Int) (h : l.length = 0) : u1 l = l := by
  have : Nat.beq l.length 0 = true := by rw [h]; rfl
  simp only [u1, this, cond_true]
theorem ub_length (x : SS) (n : Int) : (ub x n).length = lenU n := mix_length ..
theorem restH_nl (h : H4) : (restH h).nl = h.nl := (restH_same h.nl h.off h.n h.cap).1
theorem restH_n (h : H4) : (restH h).n = h.n - min h.n 1 := (restH_same h.nl h.off h.n h.cap).2.1
theorem restH_cap (h : H4) : (restH h).cap = h.cap - min h.n 1 := (restH_same h.nl h.off h.n h.cap).2.2.1
theorem restH_off (h : H4) : (restH h).off = h.off + cutOff h.cap (min h.n 1) := (restH_same h.nl h.off h.n h.cap).2.2.2
theorem rest_ok' {x : SS} {h : H4} (hx : BOk (atHd x h)) : BOk (atHd x (restH h)) := by
  obtain ⟨h1, h2, h3, h4, h5, h6, h7⟩ := hx
  simp only [atHd] at h1 h2 h3 h4 h5 h6 h7
  refine ⟨h1, ?_, ?_, ?_, ?_, ?_, ?_⟩ <;> simp only [atHd, restH_nl, restH_n, restH_cap, restH_off]
  · unfold cutOff; split <;> omega
  · omega
  · omega
  · unfold cutOff; split <;> omega
  · intro h; have := h6 h; omega
  · intro i hi; have := h7 (i + min h.n 1) (by omega); rw [show h.off + cutOff h.cap (min h.n 1) + i = h.off + (i + min h.n 1) by unfold cutOff; split <;> omega]; exact this
abbrev wvO (n : Nat) (y : Nat × Nat) (l : List Int) : AO := .arr true 44 (n + y.1 + y.2) n [.int .u16 l]
end Go.Wk.P04
