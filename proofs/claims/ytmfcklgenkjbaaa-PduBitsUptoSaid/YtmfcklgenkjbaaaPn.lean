/-
  The walks of PduKinds and PduBounds; under the rows' own bounds.
-/
import Derived.Test.YtmfcklgenkjbaaaPm
namespace Go.Wk.P04
open Go Go.Vs Go.Proofs
set_option linter.unusedSimpArgs false
set_option linter.unusedVariables false
set_option maxRecDepth 10000

/-! PduKinds, PduBounds -/
set_option maxRecDepth 100000 in
theorem kinds04_nf (fc : Int) : (fnV Try.prog Γ11 (fun (x : Code) (x_1 : AS) => none) Try.f7 [iv fc] [] fun (v : AV) (x : AHeap) => v = bv true) = (let q := Bif (fc == 1) (Bif ((isReads fc && Kd.bits (kdAt fc)) == true) (Bif (fc == 5) (Bif ((isWrites fc && Kd.bits (kdAt fc)) == true) (Bif (!(isReads fc && Kd.bits (kdAt fc))) (Bif (!(isWrites fc && Kd.bits (kdAt fc))) (AV.val (Value.bool true) = AV.val (Value.bool true)) (AV.val (Value.bool (isWrites fc)) = AV.val (Value.bool true))) (Bif (isReads fc) (Bif (!(isWrites fc && Kd.bits (kdAt fc))) (AV.val (Value.bool true) = AV.val (Value.bool true)) (AV.val (Value.bool (isWrites fc)) = AV.val (Value.bool true))) (AV.val (Value.bool false) = AV.val (Value.bool true)))) (AV.val (Value.bool false) = AV.val (Value.bool true))) (Bif ((isWrites fc && Kd.bits (kdAt fc)) == bif false then true else fc == 15) (Bif (!(isReads fc && Kd.bits (kdAt fc))) (Bif (!(isWrites fc && Kd.bits (kdAt fc))) (AV.val (Value.bool true) = AV.val (Value.bool true)) (AV.val (Value.bool (isWrites fc)) = AV.val (Value.bool true))) (Bif (isReads fc) (Bif (!(isWrites fc && Kd.bits (kdAt fc))) (AV.val (Value.bool true) = AV.val (Value.bool true)) (AV.val (Value.bool (isWrites fc)) = AV.val (Value.bool true))) (AV.val (Value.bool false) = AV.val (Value.bool true)))) (AV.val (Value.bool false) = AV.val (Value.bool true)))) (AV.val (Value.bool false) = AV.val (Value.bool true))) (Bif ((isReads fc && Kd.bits (kdAt fc)) == bif false then true else fc == 2) (Bif (fc == 5) (Bif ((isWrites fc && Kd.bits (kdAt fc)) == true) (Bif (!(isReads fc && Kd.bits (kdAt fc))) (Bif (!(isWrites fc && Kd.bits (kdAt fc))) (AV.val (Value.bool true) = AV.val (Value.bool true)) (AV.val (Value.bool (isWrites fc)) = AV.val (Value.bool true))) (Bif (isReads fc) (Bif (!(isWrites fc && Kd.bits (kdAt fc))) (AV.val (Value.bool true) = AV.val (Value.bool true)) (AV.val (Value.bool (isWrites fc)) = AV.val (Value.bool true))) (AV.val (Value.bool false) = AV.val (Value.bool true)))) (AV.val (Value.bool false) = AV.val (Value.bool true))) (Bif ((isWrites fc && Kd.bits (kdAt fc)) == bif false then true else fc == 15) (Bif (!(isReads fc && Kd.bits (kdAt fc))) (Bif (!(isWrites fc && Kd.bits (kdAt fc))) (AV.val (Value.bool true) = AV.val (Value.bool true)) (AV.val (Value.bool (isWrites fc)) = AV.val (Value.bool true))) (Bif (isReads fc) (Bif (!(isWrites fc && Kd.bits (kdAt fc))) (AV.val (Value.bool true) = AV.val (Value.bool true)) (AV.val (Value.bool (isWrites fc)) = AV.val (Value.bool true))) (AV.val (Value.bool false) = AV.val (Value.bool true)))) (AV.val (Value.bool false) = AV.val (Value.bool true)))) (AV.val (Value.bool false) = AV.val (Value.bool true)));
let q_1 := fc == 23;
let q_2 := AV.val (Value.bool false) = AV.val (Value.bool true);
True ∧
  ∀ (x : Unit),
    let q := Bif (isReads fc) (Bif ((bif true then isWrites fc else false) == q_1) q q_2) (Bif (false == q_1) q q_2);
    let q_3 := (bif false then true else isWrites fc) == true;
    let q_4 := q_2;
    True ∧
      ∀ (x : Unit),
        let q_5 := Bif (isReads fc) q (Bif q_3 q q_4);
        let q := q;
        let q_6 := q_4;
        let q_7 := q_1;
        True ∧
          ∀ (x : Unit),
            let q_8 := Bif (fc == 15) q_5 (Bif (fc == 16) q_5 (Bif (fc == 22) q_5 (Bif (isReads fc) (Bif (true == q_7) q q_6) (Bif ((bif false then true else isWrites fc) == q_7) q q_6))));
            let q := q;
            Bif (decide (fc ≥ 1)) (Bif (decide (fc ≤ 6)) (Bif (isReads fc) q (Bif q_3 q q_6)) q_8) q_8) := by kernel_rfl
set_option maxHeartbeats 1000000 in
theorem kinds04_vc (fc : Int) : FnV Try.prog Γ11 (fun _ _ => none) Try.f7 [iv fc] [] (fun v _ => v = bv true) := by
  refine FnV.of (kinds04_nf _) ?_
  rcases kcases fc with h | h | h | h | h | h | h | h | h | h | ⟨h1, h2, h3, h4, h5, h6, h7, h8, h9, h10⟩
  iterate 10 (subst h; simp [Bif_iff, Bif_need, isReads, isWrites, kdAt, kdOf])
  have e1 : kdAt fc = kd0 := by simp only [kdAt, kdOf, h1, h2, h3, h4, h5, h6, h7, h8, h9, h10, if_false, Option.getD_none]
  have e2 : isReads fc = false := by rw [isReads, e1]; rfl
  have e3 : isWrites fc = false := by rw [isWrites, e1]; rfl
  have b1 : (fc == 1) = false := by simpa using h1
  simp only [e1, e2, e3, Bif_iff, Bif_need, beq_false_of_ne h1, beq_false_of_ne h2, beq_false_of_ne h5, beq_false_of_ne h7, beq_false_of_ne h8, beq_false_of_ne h9, beq_false_of_ne h10]
  by_cases c1 : fc ≥ 1 <;> by_cases c2 : fc ≤ 6 <;> first
    | omega
    | simp [c1, c2, kd0]
abbrev u8v (n : Int) : AV := .val (.int .u8 n)
abbrev u16v (n : Int) : AV := .val (.int .u16 n)
def mostR (k : Int) : Int := if k > 2 then 125 else 2000
theorem right_none {k a n : Int} {v : SS} (hk : k = 1 ∨ k = 2 ∨ k = 3 ∨ k = 4) (ha : 0 ≤ a ∧ a < 65536) (hv : v.n = 0) : right ⟨k, a, n, v, 0⟩ = decide (1 ≤ n ∧ n ≤ mostR k ∧ a + n ≤ 65536) := by
  have ho : ∀ q : Rq, q.v.n = 0 → ones q = true := fun q h => by simp [ones, h, anyN]
  rw [Bool.eq_iff_iff]
  rcases hk with rfl | rfl | rfl | rfl <;> simp [right, kdOf, kdAt, shaped, ends, ho, hv, top1, mostR] <;> (split <;> omega)
theorem right_one {k a n : Int} {v : SS} (hk : k = 1 ∨ k = 2 ∨ k = 3 ∨ k = 4) (hv : v.n = 1) : right ⟨k, a, n, v, 0⟩ = false := by
  rw [Bool.eq_false_iff]
  rcases hk with rfl | rfl | rfl | rfl <;> simp [right, kdOf, kdAt, shaped, ends, hv]
set_option maxRecDepth 100000 in
theorem bounds04_nf (fc : Int) (addr : Int) (qty : Int) : (fnV Try.prog Γ11 (fun (x : Code) (x_1 : AS) => none) Try.f6 [u8v fc, u16v addr, u16v qty] [] fun (v : AV) (x : AHeap) => v = bv true) = (let q := IntKind.wrap IntKind.i64 (IntKind.wrap IntKind.i64 (Int.tmod fc 4) + 1);
let q_1 := SS.mk true true 0 0 0 0 0 [];
let q_2 := SS.mk false true 0 1 1 1 1 (List.set (List.replicate 1 0) 0 0);
let q_3 := SS.mk false true 0 1 1 1 1 [0];
let q_4 := RqOk (Rq.mk q (IntKind.wrap IntKind.i64 addr) (IntKind.wrap IntKind.i64 qty) q_1 0);
let q_5 := AV.val (Value.bool false) = AV.val (Value.bool true);
True ∧
  ∀ (x : Unit),
    let q_6 :=
      q_4 ∧
        ∀ (x : Unit),
          let q := q;
          Bif (right (Rq.mk q (IntKind.wrap IntKind.i64 addr) (IntKind.wrap IntKind.i64 qty) q_1 0) == false) (RqOk (Rq.mk q (IntKind.wrap IntKind.i64 addr) (IntKind.wrap IntKind.i64 qty) q_3 0) ∧ ∀ (x : Unit), AV.val (Value.bool !right (Rq.mk q (IntKind.wrap IntKind.i64 addr) (IntKind.wrap IntKind.i64 qty) q_2 0)) = AV.val (Value.bool true)) q_5;
    let q_7 :=
      q_4 ∧
        ∀ (x : Unit),
          let q := q;
          let q_7 := IntKind.wrap IntKind.i64 (IntKind.wrap IntKind.i64 addr + IntKind.wrap IntKind.i64 qty);
          Bif (right (Rq.mk q (IntKind.wrap IntKind.i64 addr) (IntKind.wrap IntKind.i64 qty) q_1 0) == decide (q_7 ≤ 65536)) (RqOk (Rq.mk q (IntKind.wrap IntKind.i64 addr) (IntKind.wrap IntKind.i64 qty) q_3 0) ∧ ∀ (x : Unit), AV.val (Value.bool !right (Rq.mk q (IntKind.wrap IntKind.i64 addr) (IntKind.wrap IntKind.i64 qty) q_2 0)) = AV.val (Value.bool true)) q_5;
    let q := q;
    let q_8 := decide (IntKind.wrap IntKind.i64 qty ≥ 1);
    Bif (decide (q > 2)) (Bif q_8 (Bif (decide (IntKind.wrap IntKind.i64 qty ≤ 125)) q_7 q_6) q_6) (Bif q_8 (Bif (decide (IntKind.wrap IntKind.i64 qty ≤ 2000)) q_7 q_6) q_6)) := by kernel_rfl
set_option maxHeartbeats 1000000 in
theorem bounds04_vc (fc addr qty : Int) (h1 : 0 ≤ fc ∧ fc < 256) (h2 : 0 ≤ addr ∧ addr < 65536) (h3 : 0 ≤ qty ∧ qty < 65536) : FnV Try.prog Γ11 (fun _ _ => none) Try.f6 [u8v fc, u16v addr, u16v qty] [] (fun v _ => v = bv true) := by
  refine FnV.of (bounds04_nf _ _ _) ?_
  have e1 : IntKind.i64.wrap qty = qty := IntWalk.i64_in _ (by omega)
  have e2 : IntKind.i64.wrap addr = addr := IntWalk.i64_in _ (by omega)
  have e3 : IntKind.i64.wrap (addr + qty) = addr + qty := IntWalk.i64_in _ (by omega)
  have hk : ∃ k, IntKind.i64.wrap (IntKind.i64.wrap (fc.tmod 4) + 1) = k ∧ (k = 1 ∨ k = 2 ∨ k = 3 ∨ k = 4) := ⟨_, rfl, by
    rw [Int.tmod_eq_emod_of_nonneg h1.1, IntWalk.i64_in (fc % 4) (by omega), IntWalk.i64_in _ (by omega)]; omega⟩
  obtain ⟨k, hk, hk'⟩ := hk
  have ok0 : RqOk ⟨k, addr, qty, ⟨true, true, 0, 0, 0, 0, 0, []⟩, 0⟩ := rq_lit (by omega) (by omega) (by omega) (by decide) (newOk (c := 0) (r := 0) rfl (by decide) (by decide) (by decide))
  have ok1 : RqOk ⟨k, addr, qty, ⟨false, true, 0, 1, 1, 1, 1, [0]⟩, 0⟩ := rq_lit (by omega) (by omega) (by omega) (by decide) (newOk (c := 0) (r := 0) rfl (by decide) (by decide) (by decide))
  have r0 : right ⟨k, addr, qty, ⟨true, true, 0, 0, 0, 0, 0, []⟩, 0⟩ = decide (1 ≤ qty ∧ qty ≤ mostR k ∧ addr + qty ≤ 65536) := right_none hk' h2 rfl
  have r1 : ∀ l, right ⟨k, addr, qty, ⟨false, true, 0, 1, 1, 1, 1, l⟩, 0⟩ = false := fun l => right_one hk' rfl
  simp only [e1, e2, e3, hk, r0, r1]
  have m1 : k > 2 → mostR k = 125 := fun h => if_pos h
  have m2 : ¬ k > 2 → mostR k = 2000 := fun h => if_neg h
  by_cases c1 : k > 2 <;> by_cases c2 : qty ≥ 1 <;> by_cases c3 : qty ≤ mostR k <;> by_cases c4 : addr + qty ≤ 65536 <;> simp_all [Bif_iff, Bif_need] <;> omega
end Go.Wk.P04
