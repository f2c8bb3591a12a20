/-
  Get; under the rows' own bounds.
-/
import Derived.Test.YtmfcklgenkjbaaaPk
namespace Go.Wk.P04
open Go Go.Vs Go.Proofs
set_option linter.unusedSimpArgs false
set_option linter.unusedVariables false
set_option maxRecDepth 10000

/-! Get -/
theorem wor_of {a b : Int} (ha : 0 ≤ a ∧ a < 256) (hb : 0 ≤ b ∧ b < 256) : wor a b = a * 256 + b := by
  obtain ⟨a, rfl⟩ := Int.eq_ofNat_of_zero_le ha.1
  obtain ⟨b, rfl⟩ := Int.eq_ofNat_of_zero_le hb.1
  have e1 : IntKind.i64.wrap (a : Int) = a := IntWalk.i64_in _ (by omega)
  have e2 : IntKind.i64.wrap (b : Int) = b := IntWalk.i64_in _ (by omega)
  have e3 : (2 : Int) ^ min (Int.toNat 8) IntKind.i64.bits = 256 := rfl
  have e4 : IntKind.i64.wrap ((a : Int) * 256) = ((a * 256 : Nat) : Int) := by rw [IntWalk.i64_in _ (by omega)]; omega
  unfold wor
  rw [e1, e2, e3, e4]
  have e5 : (BitVec.ofInt IntKind.i64.bits ((a * 256 : Nat) : Int) ||| BitVec.ofInt IntKind.i64.bits ((b : Nat) : Int)).toNat = a * 256 + b := by
    rw [BitVec.toNat_or, BitVec.toNat_ofInt, BitVec.toNat_ofInt]
    have h1 : (((a * 256 : Nat) : Int) % ((2 ^ IntKind.i64.bits : Nat) : Int)).toNat = a * 256 := by
      rw [show ((2 ^ IntKind.i64.bits : Nat) : Int) = 18446744073709551616 from rfl]; omega
    have h2 : (((b : Nat) : Int) % ((2 ^ IntKind.i64.bits : Nat) : Int)).toNat = b := by
      rw [show ((2 ^ IntKind.i64.bits : Nat) : Int) = 18446744073709551616 from rfl]; omega
    rw [h1, h2, show a * 256 = a <<< 8 by rw [Nat.shiftLeft_eq]]
    rw [← Nat.shiftLeft_add_eq_or_of_lt (by omega)]
  rw [e5, IntWalk.i64_in _ (by omega)]; omega
theorem wordW_in {x : SS} (h : BOk x) : 0 ≤ wordW x ∧ wordW x < 65536 := by
  unfold wordW
  cases hs : shortW x with
  | true => simp
  | false =>
    have : ¬ x.n < 2 := of_decide_eq_false hs
    have h0 := h.at_ 0 (by omega)
    have h1 := h.at_ 1 (by omega)
    simp only [cond_false, SS.get]
    rw [wor_of h0 h1]
    omega
def vG (k : Kd) (x : SS) (y : Nat × Nat) : SS := ⟨nlG k x, true, 0, (valsG k x).length, (valsG k x).length + y.1, (valsG k x).length + y.1 + y.2, (valsG k x).length, valsG k x⟩
def rqG (k : Kd) (x : SS) (y : Nat × Nat) : Rq := ⟨IntKind.i64.wrap (x.get 0), wordW (atH x (hd0 x)), qtyG k x, vG k x y, toG k x⟩
def putG (k : Kd) (x : SS) (y : Nat × Nat) : SS := ⟨false, true, 0, (putB k (rqG k x (0, 0))).length, (putB k (rqG k x (0, 0))).length + y.1, (putB k (rqG k x (0, 0))).length + y.1 + y.2, (putB k (rqG k x (0, 0))).length, putB k (rqG k x (0, 0))⟩
def kG (x : SS) : Kd := kdAt (IntKind.i64.wrap (x.get 0))
def codeG (x : SS) : Int :=
  bif Nat.beq x.n 0 then 1 else bif !(kdOf (IntKind.i64.wrap (x.get 0))).isSome then 1 else
  bif !(shaped (kG x) (rqG (kG x) x (0, 0))) then 3 else bif !(same (putG (kG x) x (0, 0)) x) then 3 else
  bif !(ends (kG x) (rqG (kG x) x (0, 0))) then 2 else 0
def okG (x : SS) : Bool := codeG x == 0
def oz (b : Bool) (n : Int) : Int := bif b then n else 0
def valsO (x : SS) : List Int := bif okG x then valsG (kG x) x else []
theorem u1_in {l : List Int} (h : ∀ v ∈ l, 0 ≤ v ∧ v < 65536) : ∀ v ∈ u1 l, 0 ≤ v ∧ v < 65536 := by
  intro v hv
  cases l with
  | nil => exact h v hv
  | cons a l =>
    have ha := h a (List.mem_cons_self ..)
    rw [u1_pos _ (by simp)] at hv
    simp only [List.set_cons_zero, List.getD_cons_zero, List.mem_cons] at hv
    rcases hv with rfl | hv
    · split <;> omega
    · exact h v (List.mem_cons_of_mem _ hv)
theorem uwN_in (f : Nat → Int) (k : Nat) : ∀ v ∈ uwN f k, 0 ≤ v ∧ v < 65536 := by
  induction k with
  | zero => intro v hv; cases hv
  | succ k ih =>
    intro v hv
    simp only [uwN, List.mem_append, List.mem_singleton] at hv
    rcases hv with hv | rfl
    · exact ih v hv
    · rw [wrap_u16]; omega
theorem ubit_in (a : Int) (k : Nat) : 0 ≤ ubit a k ∧ ubit a k < 65536 := by
  unfold ubit; rw [wrap_u16]; omega
theorem ub_in (x : SS) (n : Int) : ∀ v ∈ ub x n, 0 ≤ v ∧ v < 65536 := by
  intro v hv
  simp only [ub, uL, mix, tab, List.mem_map, List.mem_range] at hv
  obtain ⟨j, _, rfl⟩ := hv
  split
  · exact ubit_in ..
  · omega
theorem lenU_le (n : Int) : lenU n ≤ 65536 := by
  unfold lenU inU
  cases h : (decide (0 ≤ n) && decide (n ≤ 65536)) with
  | false => simp
  | true => simp only [Bool.and_eq_true, decide_eq_true_eq] at h; simp only [cond_true]; omega
theorem vG_ok {k : Kd} {x : SS} (hx : BOk x) (hn : 0 < x.n) (y : Nat × Nat) : WOk (vG k x y) := by
  have b0 : BOk (atH x (hd0 x)) := tl_ok hx hn
  have b1 : BOk (atH x (nextH (hd0 x))) := nextW_ok b0
  have b2 : BOk (atH x (nextH (nextH (hd0 x)))) := nextW_ok b1
  have b3 : BOk (atH x (nextH (nextH (nextH (hd0 x))))) := nextW_ok b2
  have b4 : BOk (atH x (nextH (nextH (nextH (nextH (hd0 x)))))) := nextW_ok b3
  have b5 := rest_ok' b2
  have b6 := rest_ok' b4
  have hl : (valsG k x).length ≤ 2000000 ∧ (∀ v ∈ valsG k x, 0 ≤ v ∧ v < 65536) ∧ (nlG k x = true → (valsG k x).length = 0) := by
    unfold valsG nlG
    cases k.most == 0 with
    | true =>
      simp only [cond_true]
      have := b1.n
      cases k.bits with
      | true => simp only [cond_true, u1_length, uw_length]; exact ⟨by omega, u1_in (uwN_in _ _), fun h => Nat.eq_of_beq_eq_true h⟩
      | false => simp only [cond_false, uw_length]; exact ⟨by omega, uwN_in _ _, fun h => Nat.eq_of_beq_eq_true h⟩
    | false =>
      simp only [cond_false]
      cases k.to with
      | true => have := b6.n; simp only [cond_true, uw_length]; exact ⟨by omega, uwN_in _ _, fun h => Nat.eq_of_beq_eq_true h⟩
      | false =>
        simp only [cond_false]
        cases k.all with
        | false => simp
        | true =>
          simp only [Bool.true_and, cond_true]
          cases k.bits with
          | true =>
            simp only [cond_true, ub_length]
            refine ⟨Nat.le_trans (lenU_le _) (by omega), ub_in _ _, fun h => ?_⟩
            have : inU (qtyG k x) = false := by simpa using h
            simp [lenU, this]
          | false => have := b5.n; simp only [cond_false, uw_length]; exact ⟨by omega, uwN_in _ _, fun h => Nat.eq_of_beq_eq_true h⟩
  exact newOk rfl hl.1 hl.2.1 hl.2.2
theorem rqG_ok {k : Kd} {x : SS} (hx : BOk x) (hn : 0 < x.n) (y : Nat × Nat) : RqOk (rqG k x y) := by
  have b0 : BOk (atH x (hd0 x)) := tl_ok hx hn
  have b1 : BOk (atH x (nextH (hd0 x))) := nextW_ok b0
  have b2 : BOk (atH x (nextH (nextH (hd0 x)))) := nextW_ok b1
  have w0 := wordW_in b0
  have w1 := wordW_in b1
  have w2 := wordW_in b2
  have h0 := hx.at_ 0 hn
  have e0 : IntKind.i64.wrap (x.get 0) = x.get 0 := IntWalk.i64_in _ (by simp only [SS.get]; omega)
  refine ⟨?_, ?_, ?_, ?_, vG_ok hx hn y⟩ <;> simp only [rqG, I64]
  · rw [e0]; simp only [SS.get]; omega
  · omega
  · unfold qtyG; cases k.most == 0 <;> simp <;> omega
  · unfold toG; cases k.most == 0 <;> cases k.to <;> simp <;> omega
noncomputable def Γ8 : Cts := Γ7.add 21 GetKS.ct
theorem Γ8_ok : CtsOk Try.prog Γ8 := Γ7_ok.add getK_ok Try.func21 (by kernel_rfl) (by kernel_rfl)
def GetS : Sp where
  X := SS
  Y := fun _ => Nat × Nat
  y0 := fun _ => (0, 0)
  pat := fun x => ([ssV x 0], [some (bO x)])
  fnd := UnwordsS.fnd
  pre := BOk
  res := fun x y => ⟨.tup [.agg [iv (oz (okG x) (IntKind.i64.wrap (x.get 0))), iv (oz (okG x) (wordW (atH x (hd0 x)))), iv (oz (okG x) (qtyG (kG x) x)), .sl (!okG x || nlG (kG x) x) 1 1 0 (valsO x).length ((valsO x).length + y.1), iv (oz (okG x) (toG (kG x) x))], iv (codeG x)], [], [wvO (valsO x).length y (valsO x)]⟩
  pick := fun x v H => match v with
    | .tup [.agg [_, _, _, s, _], _] => (pkO (valsO x).length s H).map fun (y, b) => (y, [0, b])
    | _ => none
theorem GetS_found : GetS.spec.Found := UnwordsS_found
theorem kd_fold (n : Int) : (⟨kMost (.int .i64 n), kLeast (.int .i64 n), kMore (.int .i64 n), kAll (.int .i64 n), kReads (.int .i64 n), kBits (.int .i64 n), kTo (.int .i64 n)⟩ : Kd) = kdAt n := rfl
theorem get0_fold (x : SS) : x.l.getD (x.off + Int.toNat 0) 0 = x.get 0 := rfl
theorem kG_fold (x : SS) : kdAt (IntKind.i64.wrap (x.get 0)) = kG x := rfl
theorem khas_fold (n : Int) : kHas (.int .i64 n) = (kdOf n).isSome := rfl
theorem rq_fold (k : Kd) (x : SS) (c r : Nat) : (⟨IntKind.i64.wrap (x.get 0), wordW (atH x (hd0 x)), qtyG k x, ⟨nlG k x, true, 0, (valsG k x).length, (valsG k x).length + c, (valsG k x).length + c + r, (valsG k x).length, valsG k x⟩, toG k x⟩ : Rq) = rqG k x (c, r) := rfl
theorem shaped_y (k : Kd) (x : SS) (c r : Nat) : shaped k (rqG k x (c, r)) = shaped k (rqG k x (0, 0)) := rfl
theorem ends_y (k : Kd) (x : SS) (c r : Nat) : ends k (rqG k x (c, r)) = ends k (rqG k x (0, 0)) := rfl
theorem putB_y (k : Kd) (x : SS) (c r : Nat) : putB k (rqG k x (c, r)) = putB k (rqG k x (0, 0)) := rfl
theorem put_fold (k : Kd) (x : SS) (c r : Nat) : (⟨false, true, 0, (putB k (rqG k x (0, 0))).length, (putB k (rqG k x (0, 0))).length + c, (putB k (rqG k x (0, 0))).length + c + r, (putB k (rqG k x (0, 0))).length, putB k (rqG k x (0, 0))⟩ : SS) = putG k x (c, r) := rfl
theorem same_y (k : Kd) (x : SS) (c r : Nat) : same (putG k x (c, r)) x = same (putG k x (0, 0)) x := rfl
theorem code1a {x : SS} (h : ((x.n : Int) == 0) = true) : codeG x = 1 := by
  have : x.n = 0 := by simpa using h
  rw [codeG, this]; rfl
theorem code0 {x : SS} (h : ((x.n : Int) == 0) = false) : Nat.beq x.n 0 = false := by
  have : x.n ≠ 0 := by simpa using h
  cases hn : x.n with | zero => omega | succ n => rfl
theorem code1b {x : SS} (h : ((x.n : Int) == 0) = false) (h1 : (kdOf (IntKind.i64.wrap (x.get 0))).isSome = false) : codeG x = 1 := by
  simp only [codeG, code0 h, h1, cond_false, Bool.not_false, cond_true]
theorem code3a {x : SS} (h : ((x.n : Int) == 0) = false) (h1 : (kdOf (IntKind.i64.wrap (x.get 0))).isSome = true) (h2 : shaped (kG x) (rqG (kG x) x (0, 0)) = false) : codeG x = 3 := by
  simp only [codeG, code0 h, h1, h2, cond_false, Bool.not_false, Bool.not_true, cond_true]
theorem code3b {x : SS} (h : ((x.n : Int) == 0) = false) (h1 : (kdOf (IntKind.i64.wrap (x.get 0))).isSome = true) (h2 : shaped (kG x) (rqG (kG x) x (0, 0)) = true) (h3 : same (putG (kG x) x (0, 0)) x = false) : codeG x = 3 := by
  simp only [codeG, code0 h, h1, h2, h3, cond_false, Bool.not_false, Bool.not_true, cond_true]
theorem code2 {x : SS} (h : ((x.n : Int) == 0) = false) (h1 : (kdOf (IntKind.i64.wrap (x.get 0))).isSome = true) (h2 : shaped (kG x) (rqG (kG x) x (0, 0)) = true) (h3 : same (putG (kG x) x (0, 0)) x = true) (h4 : ends (kG x) (rqG (kG x) x (0, 0)) = false) : codeG x = 2 := by
  simp only [codeG, code0 h, h1, h2, h3, h4, cond_false, Bool.not_false, Bool.not_true, cond_true]
theorem code00 {x : SS} (h : ((x.n : Int) == 0) = false) (h1 : (kdOf (IntKind.i64.wrap (x.get 0))).isSome = true) (h2 : shaped (kG x) (rqG (kG x) x (0, 0)) = true) (h3 : same (putG (kG x) x (0, 0)) x = true) (h4 : ends (kG x) (rqG (kG x) x (0, 0)) = true) : codeG x = 0 := by
  simp only [codeG, code0 h, h1, h2, h3, h4, cond_false, Bool.not_false, Bool.not_true, cond_true]
theorem w1_in (n : Int) : ∀ v ∈ w1 n, 0 ≤ v ∧ v < 256 := by
  intro v hv
  simp only [w1, List.mem_cons, List.not_mem_nil, or_false] at hv
  rcases hv with rfl | rfl <;> omega
theorem putB_in (k : Kd) (q : Rq) : ∀ v ∈ putB k q, 0 ≤ v ∧ v < 256 := by
  have o1 : ∀ n : Int, ∀ v ∈ [n % 256], 0 ≤ v ∧ v < 256 := fun n v hv => by
    simp only [List.mem_singleton] at hv; subst hv; omega
  have ap : ∀ {a b : List Int}, (∀ v ∈ a, 0 ≤ v ∧ v < 256) → (∀ v ∈ b, 0 ≤ v ∧ v < 256) → ∀ v ∈ a ++ b, 0 ≤ v ∧ v < 256 := fun ha hb v hv => by
    rcases List.mem_append.1 hv with h | h
    · exact ha v h
    · exact hb v h
  unfold putB
  cases q.fc == 5
  rotate_left
  · exact ap (ap (o1 _) (w1_in _)) (w1_in _)
  simp only [cond_false]
  cases k.most == 0
  rotate_left
  · exact ap (ap (o1 _) (w1_in _)) (wN_in _ _)
  simp only [cond_false]
  cases k.to
  rotate_left
  · exact ap (ap (ap (ap (ap (ap (o1 _) (w1_in _)) (w1_in _)) (w1_in _)) (w1_in _)) (o1 _)) (wN_in _ _)
  simp only [cond_false]
  cases k.all
  · exact ap (ap (o1 _) (w1_in _)) (w1_in _)
  cases k.bits
  · exact ap (ap (ap (ap (o1 _) (w1_in _)) (w1_in _)) (o1 _)) (wN_in _ _)
  · exact ap (ap (ap (ap (o1 _) (w1_in _)) (w1_in _)) (o1 _)) (bN_in _ _)
theorem kdAt_more (n : Int) : (kdAt n).all = false → (kdAt n).more ≤ 121 := by
  rcases kcases n with h | h | h | h | h | h | h | h | h | h | ⟨h1, h2, h3, h4, h5, h6, h7, h8, h9, h10⟩ <;> first
    | (subst h; decide)
    | (simp only [kdAt, kdOf, h1, h2, h3, h4, h5, h6, h7, h8, h9, h10, if_false]; decide)
theorem putB_len {n : Int} {q : Rq} (hs : shaped (kdAt n) q = true) : (putB (kdAt n) q).length ≤ 4010 := by
  have h1 := kdAt_most n
  have h2 := kdAt_more n
  have hn : q.v.n ≤ 2000 := by
    simp only [shaped, Bool.and_eq_true, Bool.or_eq_true, decide_eq_true_eq, beq_iff_eq] at hs
    obtain ⟨_, g1, ⟨g2, g3⟩, _⟩ := hs
    cases ha : (kdAt n).all with
    | true => rw [ha] at g2 g3; simp only [cond_true] at g2 g3; omega
    | false => have := h2 ha; rw [ha] at g3; simp only [cond_false] at g3; omega
  unfold putB
  cases q.fc == 5 <;> cases (kdAt n).most == 0 <;> cases (kdAt n).to <;> cases (kdAt n).all <;> cases (kdAt n).bits <;> simp only [cond_true, cond_false, Bool.and_true, Bool.and_false, List.length_append, List.length_cons, List.length_nil, w1_length, wN_length, bN_length] <;> omega
theorem putG_ok {x : SS} (h2 : shaped (kG x) (rqG (kG x) x (0, 0)) = true) (y : Nat × Nat) : BOk (putG (kG x) x y) :=
  newOk rfl (Nat.le_trans (putB_len h2) (by omega)) (putB_in _ _) (fun h => by cases h)
set_option maxRecDepth 100000 in
theorem getq_nf (x : SS) : (fnV Try.prog Γ8 (fun (x : Code) (x_1 : AS) => none) Try.f11 [ssV x 0] [some (bO x)] (Sp.good GetS x)) = (let q := Kd.mk (kMost (Value.int IntKind.i64 (IntKind.wrap IntKind.i64 (List.getD (SS.l x) (SS.off x + Int.toNat 0) 0)))) (kLeast (Value.int IntKind.i64 (IntKind.wrap IntKind.i64 (List.getD (SS.l x) (SS.off x + Int.toNat 0) 0)))) (kMore (Value.int IntKind.i64 (IntKind.wrap IntKind.i64 (List.getD (SS.l x) (SS.off x + Int.toNat 0) 0)))) (kAll (Value.int IntKind.i64 (IntKind.wrap IntKind.i64 (List.getD (SS.l x) (SS.off x + Int.toNat 0) 0)))) (kReads (Value.int IntKind.i64 (IntKind.wrap IntKind.i64 (List.getD (SS.l x) (SS.off x + Int.toNat 0) 0)))) (kBits (Value.int IntKind.i64 (IntKind.wrap IntKind.i64 (List.getD (SS.l x) (SS.off x + Int.toNat 0) 0)))) (kTo (Value.int IntKind.i64 (IntKind.wrap IntKind.i64 (List.getD (SS.l x) (SS.off x + Int.toNat 0) 0))));
let q_1 := AO.arr (SS.rw x) 5 (SS.room x) (SS.m x) [Col.int IntKind.u8 (SS.l x)];
let q_2 := 0 - List.length (valsO x);
let q_3 := AV.val (Value.int IntKind.i64 0);
let q_4 := AV.val (Value.int IntKind.i64 1) = AV.val (Value.int IntKind.i64 (codeG x)) ∧ True;
let q_5 := SS.off x + 0;
let q_6 := AV.val (Value.int IntKind.i64 (oz (okG x) (wordW (atH x (hd0 x)))));
let q_7 := List.length (valsO x) = 0;
let q_8 := AV.val (Value.int IntKind.i64 (oz (okG x) (qtyG (kG x) x)));
let q_9 := AV.val (Value.int IntKind.i64 (oz (okG x) (toG (kG x) x)));
let q_10 := IntKind.wrap IntKind.i64 (SS.get x 0);
let q_11 := !okG x || nlG (kG x) x;
Bif ((↑(SS.n x) : Int) == 0) ((((q_3 = AV.val (Value.int IntKind.i64 (oz (okG x) q_10)) ∧ q_3 = q_6 ∧ q_3 = q_8 ∧ (q_11 = true ∧ q_7 ∧ List.length (valsO x) + q_2 = 0) ∧ q_3 = q_9 ∧ True) ∧ q_4) ∧ True) ∧ Bif (AO.deadB (bO x)) True (q_1 = q_1) ∧ Bif (AO.deadB (wvO (List.length (valsO x)) (q_2, 0) (valsO x))) True False ∧ True)
  (True ∧
    ∀ (x_1 : Unit),
      let q_12 := List.length (valsG q x);
      let q := q;
      let q_13 := q_1;
      let q_14 := decide (q_5 < SS.m x);
      let q_15 := q_2;
      let q_16 := q_3;
      let q_17 := Value.int IntKind.i64 (IntKind.wrap IntKind.i64 (List.getD (SS.l x) (SS.off x + Int.toNat 0) 0));
      let q_18 := q_10;
      let q_19 := q_7;
      let q_20 := q_6;
      let q_21 := q_8;
      let q_22 := q_9;
      let q_23 := q_11;
      Bif (!SS.nl x && (inR 0 (SS.n x) && q_14))
        (Bif q_14
          (Bif (!kHas q_17) ((((q_16 = AV.val (Value.int IntKind.i64 (oz (okG x) q_18)) ∧ q_16 = q_20 ∧ q_16 = q_21 ∧ (q_23 = true ∧ q_19 ∧ List.length (valsO x) + q_15 = 0) ∧ q_16 = q_22 ∧ True) ∧ q_4) ∧ True) ∧ Bif (AO.deadB (bO x)) True (q_13 = q_13) ∧ Bif (AO.deadB (wvO (List.length (valsO x)) (q_15, 0) (valsO x))) True False ∧ True)
            ((BOk x ∧ 0 < SS.n x) ∧
              ∀ (x_2 : Nat × Nat),
                let q := Rq.mk q_18 (wordW (atH x (hd0 x))) (qtyG q x) (SS.mk (nlG q x) true 0 q_12 (q_12 + Prod.fst x_2) (q_12 + Prod.fst x_2 + Prod.snd x_2) q_12 (valsG q x)) (toG q x);
                let q_24 := q_17;
                let q_25 := q_13;
                RqOk q ∧
                  ∀ (x_3 : Unit),
                    let q := q;
                    let q_26 := Kd.mk (kMost q_24) (kLeast q_24) (kMore q_24) (kAll q_24) (kReads q_24) (kBits q_24) (kTo q_24);
                    let q_27 := Bif (AO.deadB (bO x)) True (q_25 = q_25);
                    let q_28 := q_15;
                    let q_29 := q_16;
                    let q_30 := q_20;
                    let q_31 := q_19;
                    let q_32 := q_21;
                    let q_33 := q_22;
                    let q_34 := q_18;
                    let q_35 := AV.val (Value.int IntKind.i64 2) = AV.val (Value.int IntKind.i64 (codeG x)) ∧ True;
                    let q_36 := AV.val (Value.int IntKind.i64 3) = AV.val (Value.int IntKind.i64 (codeG x)) ∧ True;
                    let q_37 := q_23;
                    let q_38 := AV.val (Value.int IntKind.i64 (wordW (atH x (hd0 x))));
                    let q_39 := [Col.int IntKind.u16 (valsO x)];
                    Bif (!shaped q_26 q)
                      (Bif (!shaped q_26 q) ((((q_29 = AV.val (Value.int IntKind.i64 (oz (okG x) q_34)) ∧ q_29 = q_30 ∧ q_29 = q_32 ∧ (q_37 = true ∧ q_31 ∧ List.length (valsO x) + q_28 = 0) ∧ q_29 = q_33 ∧ True) ∧ q_36) ∧ True) ∧ q_27 ∧ Bif (AO.deadB (wvO (List.length (valsO x)) (q_28, 0) (valsO x))) True False ∧ True)
                        ((RqOk q ∧ Low q) ∧
                          ∀ (x_4 : Unit),
                            let q := List.length (valsG q_26 x) + Prod.fst x_2;
                            let q_40 := q_26;
                            let q_41 := q_27;
                            let q_42 := q_29;
                            let q_43 := q + Prod.snd x_2;
                            let q_44 := List.length (valsO x) + (q - List.length (valsO x));
                            let q_45 := q_34;
                            let q_46 := q_28;
                            let q_47 := q_30;
                            let q_48 := q_32;
                            let q_49 := q_33;
                            let q_50 := q_43 - q;
                            let q_51 := q_37;
                            let q_52 := AV.val (Value.int IntKind.i64 (oz (okG x) q_45));
                            Bif (!ends q_40 (Rq.mk q_45 (wordW (atH x (hd0 x))) (qtyG q_40 x) (SS.mk (nlG q_40 x) true 0 (List.length (valsG q_40 x)) q q_43 (List.length (valsG q_40 x)) (valsG q_40 x)) (toG q_40 x))) ((((q_42 = q_52 ∧ q_42 = q_47 ∧ q_42 = q_48 ∧ (q_51 = true ∧ q_31 ∧ List.length (valsO x) + q_46 = 0) ∧ q_42 = q_49 ∧ True) ∧ q_35) ∧ True) ∧ q_41 ∧ Bif (AO.deadB (wvO (List.length (valsO x)) (q_46, 0) (valsO x))) True False ∧ True) ((((AV.val (Value.int IntKind.i64 q_45) = q_52 ∧ q_38 = q_47 ∧ AV.val (Value.int IntKind.i64 (qtyG q_40 x)) = q_48 ∧ AV.sl (nlG q_40 x) 12 1 0 (List.length (valsG q_40 x)) q = AV.sl q_51 12 1 0 (List.length (valsO x)) q_44 ∧ AV.val (Value.int IntKind.i64 (toG q_40 x)) = q_49 ∧ True) ∧ q_42 = AV.val (Value.int IntKind.i64 (codeG x)) ∧ True) ∧ True) ∧ q_41 ∧ Bif (AO.deadB (wvO (List.length (valsO x)) (q - List.length (valsO x), q_50) (valsO x))) True (AO.arr true 33 q_43 (List.length (valsG q_40 x)) [Col.int IntKind.u16 (valsG q_40 x)] = AO.arr true 33 (q_44 + q_50) (List.length (valsO x)) q_39) ∧ True)))
                      ((RqOk q ∧ q_26 = kdAt (Rq.fc q) ∧ shaped q_26 q = true) ∧
                        ∀ (x_4 : Nat × Nat),
                          let q_40 := List.length (putB q_26 q);
                          let q := q;
                          let q_41 := q_26;
                          let q_42 := q_25;
                          let q_43 := q_40 + Prod.fst x_4;
                          (BOk (SS.mk false true 0 q_40 q_43 (q_43 + Prod.snd x_4) q_40 (putB q_41 q)) ∧ BOk x) ∧
                            ∀ (x_5 : Unit),
                              let q_44 := q_40;
                              let q := q;
                              let q_45 := q_41;
                              let q_46 := Bif (AO.deadB (bO x)) True (q_42 = q_42);
                              let q_47 := q_28;
                              let q_48 := q_29;
                              let q_49 := q_44 + Prod.fst x_4;
                              let q_50 := q_30;
                              let q_51 := q_31;
                              let q_52 := q_32;
                              let q_53 := q_33;
                              let q_54 := q_34;
                              let q_55 := q_37;
                              Bif (!same (SS.mk false true 0 q_44 q_49 (q_49 + Prod.snd x_4) q_44 (putB q_45 q)) x) ((((q_48 = AV.val (Value.int IntKind.i64 (oz (okG x) q_54)) ∧ q_48 = q_50 ∧ q_48 = q_52 ∧ (q_55 = true ∧ q_51 ∧ List.length (valsO x) + q_47 = 0) ∧ q_48 = q_53 ∧ True) ∧ q_36) ∧ True) ∧ q_46 ∧ Bif (AO.deadB (wvO (List.length (valsO x)) (q_47, 0) (valsO x))) True False ∧ True)
                                ((RqOk q ∧ Low q) ∧
                                  ∀ (x_6 : Unit),
                                    let q := List.length (valsG q_45 x) + Prod.fst x_2;
                                    let q_56 := q_45;
                                    let q_57 := q_46;
                                    let q_58 := q_48;
                                    let q_59 := q + Prod.snd x_2;
                                    let q_60 := List.length (valsO x) + (q - List.length (valsO x));
                                    let q_61 := q_54;
                                    let q_62 := q_47;
                                    let q_63 := q_50;
                                    let q_64 := q_52;
                                    let q_65 := q_53;
                                    let q_66 := q_59 - q;
                                    let q_67 := q_55;
                                    let q_68 := AV.val (Value.int IntKind.i64 (oz (okG x) q_61));
                                    Bif (!ends q_56 (Rq.mk q_61 (wordW (atH x (hd0 x))) (qtyG q_56 x) (SS.mk (nlG q_56 x) true 0 (List.length (valsG q_56 x)) q q_59 (List.length (valsG q_56 x)) (valsG q_56 x)) (toG q_56 x))) ((((q_58 = q_68 ∧ q_58 = q_63 ∧ q_58 = q_64 ∧ (q_67 = true ∧ q_51 ∧ List.length (valsO x) + q_62 = 0) ∧ q_58 = q_65 ∧ True) ∧ q_35) ∧ True) ∧ q_57 ∧ Bif (AO.deadB (wvO (List.length (valsO x)) (q_62, 0) (valsO x))) True False ∧ True) ((((AV.val (Value.int IntKind.i64 q_61) = q_68 ∧ q_38 = q_63 ∧ AV.val (Value.int IntKind.i64 (qtyG q_56 x)) = q_64 ∧ AV.sl (nlG q_56 x) 12 1 0 (List.length (valsG q_56 x)) q = AV.sl q_67 12 1 0 (List.length (valsO x)) q_60 ∧ AV.val (Value.int IntKind.i64 (toG q_56 x)) = q_65 ∧ True) ∧ q_58 = AV.val (Value.int IntKind.i64 (codeG x)) ∧ True) ∧ True) ∧ q_57 ∧ Bif (AO.deadB (wvO (List.length (valsO x)) (q - List.length (valsO x), q_66) (valsO x))) True (AO.arr true 33 q_59 (List.length (valsG q_56 x)) [Col.int IntKind.u16 (valsG q_56 x)] = AO.arr true 33 (q_60 + q_66) (List.length (valsO x)) q_39) ∧ True)))))
          False)
        False)) := by kernel_rfl
set_option maxHeartbeats 1000000 in
theorem get_vc (x : SS) (hx : BOk x) : FnV Try.prog Γ8 (fun _ _ => none) Try.f11 [ssV x 0] [some (bO x)] (GetS.good x) := by
  have hnl := hx.nl0
  have hx' := hx
  obtain ⟨k1, k2, k3, k4, k5, k6, k7⟩ := hx
  refine FnV.of (getq_nf _) ?_
  all_goals try simp only [Bif_need, Bif_True]
  all_goals try simp only [Bif_iff, eq_self, and_true, true_and, AV.val.injEq, AV.agg.injEq, AV.tup.injEq, AV.sl.injEq, AV.ptr.injEq, AV.mp.injEq, Value.int.injEq, Value.bool.injEq, Value.string.injEq, AO.cells.injEq, AO.arr.injEq, AO.mapc.injEq, List.cons.injEq, Col.bool.injEq, Col.int.injEq, Col.str.injEq, MCol.int.injEq, MCol.bool.injEq, MCol.str.injEq, decide_eq_true_eq, decide_eq_false_iff_not, Nat.zero_add, Nat.add_zero, implies_true, Bool.and_eq_true, inR_iff, List.drop_zero, List.take_nil, List.drop_nil, List.nil_append, Int.toNat_natCast, longEnough, colLen, Bool.not_true, Bool.not_false, Bool.true_or, Bool.or_eq_true, Bool.not_eq_true', Bool.not_eq_false', take_take_self, take_tab, one_col, tab_length, mix_length, List.length_take, Nat.min_eq_left, List.set_cons_zero, blt01, Bool.and_false, Bool.and_true, Bool.false_and, Bool.true_and, Bool.false_eq_true, Bool.true_eq_false, false_and, and_false, false_implies]
  all_goals repeat' (first | apply And.intro | intro (⟨k, c, r⟩ : Nat × Nat × Nat) | intro _)
  all_goals try dsimp only at *
  all_goals try omega
  all_goals try simp only [kd_fold, get0_fold, kG_fold, khas_fold, rq_fold, shaped_y, ends_y, putB_y, put_fold, same_y] at *
  all_goals try have hn : 0 < x.n := by have := ‹((x.n : Int) == 0) = false›; simp at this; omega
  all_goals try (first
    | have hc := code1a ‹_›
    | have hc := code00 ‹_› ‹_› ‹_› ‹_› ‹_›
    | have hc := code2 ‹_› ‹_› ‹_› ‹_› ‹_›
    | have hc := code3b ‹_› ‹_› ‹_› ‹_›
    | have hc := code3a ‹_› ‹_› ‹_›
    | have hc := code1b ‹_› ‹_›)
  all_goals first
    | assumption
    | omega
    | exact hnl (by omega)
    | exact rqG_ok hx' hn _
    | rfl
    | exact putG_ok ‹_› _
    | exact shaped_low ‹_›
    | (have e1 : shaped (kG x) (rqG (kG x) x (0, 0)) = true := ‹_›; have e2 : shaped (kG x) (rqG (kG x) x (0, 0)) = false := ‹_›; rw [e1] at e2; cases e2; done)
    | (simp only [oz, okG, valsO, hc]; first | rfl | omega | exact .inl rfl)
    | (have hv : valsO x = valsG (kG x) x := by simp only [valsO, okG, hc]; rfl
       rw [hv]; omega)
theorem get_ok : CtOk Try.prog 11 GetS.ct := Sp.ok Γ8_ok hm Try.func11 GetS GetS_found (fun _ _ _ => none) get_vc
end Go.Wk.P04
