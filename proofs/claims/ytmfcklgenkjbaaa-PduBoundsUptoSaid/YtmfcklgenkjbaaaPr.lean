/-
  The walk of PduWrong; under the rows' own bounds.
-/
import Derived.Test.YtmfcklgenkjbaaaPq
namespace Go.Wk.P04
open Go Go.Vs Go.Proofs
set_option linter.unusedSimpArgs false
set_option linter.unusedVariables false
set_option maxRecDepth 10000

/-! PduWrong -/
set_option maxRecDepth 100000 in
theorem wrong04_nf (q : Rq) (cut : Int) (more : Int) : (fnV Try.prog Γ11 (fun (x : Code) (x_1 : AS) => none) Try.f4 [rqV q 0, AV.val (Value.int IntKind.u16 cut), AV.val (Value.int IntKind.u8 more)] [some (wO (Rq.v q))] fun (v : AV) (x : AHeap) => v = bv true) = (True ∧
  ∀ (x : Unit),
    let q_1 := (↑(List.length (putL q)) : Int);
    RqOk (Rq.mk (Rq.fc q) (Rq.addr q) (Rq.qty q) (Rq.v q) (Rq.to q)) ∧
      ∀ (x : Nat × Nat),
        let q_2 := List.length (putL q) + Prod.fst (roomIf (right q) x);
        let q_3 := Int.tmod (IntKind.wrap IntKind.i64 cut) q_1;
        let q_4 := q_1;
        let q_5 := AV.val (Value.bool true) = AV.val (Value.bool true);
        let q_6 := Prod.snd (roomIf (right q) x);
        Bif (decide ((↑(SS.n (Rq.v q)) : Int) > 3000)) q_5
          (Bif (q_4 == 0) q_5
            (Bif (!decide (q_4 = 0))
              (Bif (inC q_3 q_2)
                (BOk (SS.mk (!right q) true (0 + cutOff q_2 0) (Int.toNat q_3) q_2 (q_2 + q_6) (List.length (putL q)) (putL q)) ∧
                  ∀ (x : Nat × Nat),
                    let q_7 := 0 + List.length (putL q);
                    let q_8 := q_7 * 1;
                    Bif (decide (q_7 ≤ List.length (putL q)) && (longEnough q_7 [Col.int IntKind.u8 (putL q)] && (!!right q || decide (List.length (putL q) = 0))) && (decide (q_8 ≤ 140737488355328) && decide (q_7 ≤ 9223372036854775807)) && true)
                      (∀ (x : Nat),
                        let q_9 := q_7 + 1;
                        let q_10 := q_7;
                        let q_11 := List.take 0 (List.drop 0 (List.replicate 0 0)) ++ List.take (List.length (putL q)) (List.drop 0 (putL q));
                        let q_12 := 0 + q_10;
                        let q_13 := 0 + (q_10 + x);
                        let q_14 := q_9 * 1;
                        let q_15 := q_10 + x;
                        Bif (decide (q_12 ≤ q_10) && (longEnough q_12 [Col.int IntKind.u8 q_11] && true) && (decide (q_14 ≤ 140737488355328) && decide (q_9 ≤ 9223372036854775807)) && (decide (q_13 ≤ q_15) && true))
                          (∀ (x : Nat),
                            let q_16 := List.take q_10 (List.drop 0 q_11) ++ List.take 1 (List.drop 0 (List.set (List.replicate 1 0) 0 more));
                            let q_17 := q_9;
                            let q_18 := q_2;
                            let q_19 := q_3;
                            let q_20 := false && !Nat.blt 0 (List.length (putL q)) && !Nat.blt 0 1;
                            let q_21 := q_17 + x;
                            let q_22 := AV.val (Value.bool false) = AV.val (Value.bool true);
                            let q_23 := q_6;
                            BOk (SS.mk false true 0 q_17 q_21 q_21 q_17 q_16) ∧
                              ∀ (x_1 : Nat × Nat),
                                let q_24 := Bif (decide (q_19 > 0)) (Bif (codeG (SS.mk (!right q) true (0 + cutOff q_18 0) (Int.toNat q_19) q_18 (q_18 + q_23) (List.length (putL q)) (putL q)) == 3) (AV.val (Value.bool (codeG (SS.mk q_20 true 0 q_17 q_21 q_21 q_17 q_16) == 3)) = AV.val (Value.bool true)) q_22) q_22;
                                let q_25 := q_17;
                                let q_26 := q_18;
                                let q_27 := q_19;
                                let q_28 := q_25 + x;
                                Bif (q_27 == 0) (Bif (codeG (SS.mk (!right q) true (0 + cutOff q_26 0) (Int.toNat q_27) q_26 (q_26 + q_23) (List.length (putL q)) (putL q)) == 1) (AV.val (Value.bool (codeG (SS.mk q_20 true 0 q_25 q_28 q_28 q_25 q_16) == 3)) = AV.val (Value.bool true)) q_24) q_24)
                          False)
                      False)
                False)
              False))) := by kernel_rfl
set_option maxHeartbeats 1000000 in
theorem wrong04_vc (q : Rq) (cut more : Int) (hq : RqOk q) (hc : 0 ≤ cut ∧ cut < 65536) (hm : 0 ≤ more ∧ more < 256) : FnV Try.prog Γ11 (fun _ _ => none) Try.f4 [rqV q 0, .val (.int .u16 cut), .val (.int .u8 more)] [some (wO q.v)] (fun v _ => v = bv true) := by
  refine FnV.of (wrong04_nf _ _ _) ?_
  have hq' : RqOk ⟨q.fc, q.addr, q.qty, q.v, q.to⟩ := hq
  have hp := putL_len (q := q)
  refine ⟨trivial, fun _ => ⟨hq', fun y => ?_⟩⟩
  rw [Bif_iff]
  refine ⟨fun _ => rfl, fun _ => ?_⟩
  cases hr : right q with
  | false =>
    have : putL q = [] := by simp [putL, hr]
    rw [this]; exact rfl
  | true =>
  have hpos := hp.2.2 hr
  have hcut : IntKind.i64.wrap cut = cut := IntWalk.i64_in _ (by omega)
  obtain ⟨c, rfl⟩ := Int.eq_ofNat_of_zero_le hc.1
  have hk : (IntKind.i64.wrap (c : Int)).tmod ((putL q).length : Int) = ((c % (putL q).length : Nat) : Int) := by
    rw [hcut, Int.tmod_eq_emod_of_nonneg (by omega)]; rfl
  have hlt : c % (putL q).length < (putL q).length := Nat.mod_lt _ hpos
  simp only [hk]
  generalize c % (putL q).length = k at hlt ⊢
  have hoff : ∀ m, 0 + cutOff m 0 = 0 := fun m => by simp [cutOff]
  have hin := putL_in q
  have htk : List.take (putL q).length (putL q) = putL q := List.take_of_length_le (Nat.le_refl _)
  have hl1 : List.take (putL q).length (List.drop 0 (List.take 0 (List.drop 0 (List.replicate 0 (0 : Int))) ++ List.take (putL q).length (List.drop 0 (putL q)))) = putL q := by simp
  have hl2 : List.take 1 (List.drop 0 ((List.replicate 1 (0 : Int)).set 0 more)) = [more] := rfl
  have hcs : ∀ nl c r, (nl = true → k = 0) → (putL q).length ≤ c → BOk ⟨nl, true, 0, k, c, c + r, (putL q).length, putL q⟩ := fun nl c r hnl hcc =>
    ⟨rfl, by simp; omega, by show k ≤ 2000000; omega, by show k ≤ c; omega, by simp, hnl, fun i hi => by
      have hi : i < (putL q).length := Nat.lt_trans hi hlt
      show 0 ≤ (putL q).getD (0 + i) 0 ∧ (putL q).getD (0 + i) 0 < 256
      rw [Nat.zero_add, List.getD_eq_getElem?_getD, List.getElem?_eq_getElem hi]
      exact hin _ (List.getElem_mem _)⟩
  have hcv : ∀ nl c r, SS.val ⟨nl, true, 0, k, c, r, (putL q).length, putL q⟩ = List.take k (putL q) := fun nl c r => by simp [SS.val]
  have hm1 : ∀ c r, BOk ⟨false, true, 0, (putL q).length + 1, (putL q).length + 1 + c, (putL q).length + 1 + c + r, (putL q).length + 1, putL q ++ [more]⟩ := fun c r =>
    newOk (by simp) (by omega) (fun v hv => by
      rcases List.mem_append.1 hv with h | h
      · exact hin v h
      · simp only [List.mem_singleton] at h; subst h; exact hm) (fun h => by cases h)
  have hmv : ∀ c r, SS.val ⟨false, true, 0, (putL q).length + 1, c, r, (putL q).length + 1, putL q ++ [more]⟩ = putL q ++ [more] := fun c r => SS.val_all (by simp)
  have hm3 : ∀ c r, codeG ⟨false, true, 0, (putL q).length + 1, (putL q).length + 1 + c, (putL q).length + 1 + c + r, (putL q).length + 1, putL q ++ [more]⟩ = 3 := fun c r =>
    not_get hq hr (hm1 c r) (Nat.succ_pos _) (l := [more]) (by simp) (.inr (hmv _ _))
  have hm3' : ∀ c, codeG ⟨false, true, 0, (putL q).length + 1, (putL q).length + 1 + c, (putL q).length + 1 + c, (putL q).length + 1, putL q ++ [more]⟩ = 3 := fun c => hm3 c 0
  have hm1' : ∀ c, BOk ⟨false, true, 0, (putL q).length + 1, (putL q).length + 1 + c, (putL q).length + 1 + c, (putL q).length + 1, putL q ++ [more]⟩ := fun c => hm1 c 0
  have hf : (false && !Nat.blt 0 (putL q).length && !Nat.blt 0 1) = false := rfl
  have n1 : (((putL q).length : Int) == 0) = false := by simp; intro h; rw [h] at hpos; cases hpos
  have n2 : decide (((putL q).length : Int) = 0) = false := decide_eq_false (by omega)
  have n3 : inC (k : Int) ((putL q).length + (roomIf true y).1) = true := by simp only [inC, Bool.and_eq_true, decide_eq_true_eq]; omega
  have hb0 : BOk ⟨false, true, 0, k, (putL q).length + (roomIf true y).1, (putL q).length + (roomIf true y).1 + (roomIf true y).2, (putL q).length, putL q⟩ := hcs _ _ _ (fun h => by cases h) (by omega)
  simp only [hoff, hl2, Nat.zero_add, hl1, hf, hm3', n1, n2, n3, Bool.not_true, Int.toNat_natCast, longEnough, colLen, Bool.not_false, Bool.true_or, Bool.and_true]
  have b1 : decide ((putL q).length ≤ (putL q).length) = true := decide_eq_true (Nat.le_refl _)
  have b2 : decide ((putL q).length * 1 ≤ 140737488355328) = true := decide_eq_true (by omega)
  have b3 : decide ((putL q).length ≤ 9223372036854775807) = true := decide_eq_true (by omega)
  have b4 : decide (((putL q).length + 1) * 1 ≤ 140737488355328) = true := decide_eq_true (by omega)
  have b5 : decide ((putL q).length + 1 ≤ 9223372036854775807) = true := decide_eq_true (by omega)
  by_cases h0 : k = 0
  · subst h0
    have hc1 : codeG ⟨false, true, 0, 0, (putL q).length + (roomIf true y).1, (putL q).length + (roomIf true y).1 + (roomIf true y).2, (putL q).length, putL q⟩ = 1 := code1a rfl
    simp only [hc1, b1, b2, b3, b4, b5]
    simp [Bif_iff, hb0, hm1']
  · have hc3 : codeG ⟨false, true, 0, k, (putL q).length + (roomIf true y).1, (putL q).length + (roomIf true y).1 + (roomIf true y).2, (putL q).length, putL q⟩ = 3 :=
      not_get hq hr hb0 (by show 0 < k; omega) (l := List.drop k (putL q)) (by
        intro h
        have := congrArg List.length h
        simp at this; omega) (.inl (by rw [hcv, List.take_append_drop]))
    have hk0 : ((k : Int) == 0) = false := by simpa using h0
    have hk1 : decide ((k : Int) > 0) = true := decide_eq_true (by omega)
    simp only [hc3, b1, b2, b3, b4, b5, hk0, hk1]
    simp [Bif_iff, hb0, hm1']
end Go.Wk.P04
