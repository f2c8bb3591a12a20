/-
  The walk of PduBits, and its plain law; under the rows' own bounds.
-/
import Derived.Test.YtmfcklgenkjbaaaPm
namespace Go.Wk.P04
open Go Go.Vs Go.Proofs
set_option linter.unusedSimpArgs false
set_option linter.unusedVariables false
set_option maxRecDepth 10000

/-! PduBits -/
theorem ubit_of {a : Nat} (ha : a < 256) (k : Nat) : ubit (a : Int) k = if a.testBit (k % 8) then 1 else 0 := by
  unfold ubit
  have h1 : ((k : Int).tmod 8).toNat = k % 8 := by rw [Int.tmod_eq_emod_of_nonneg (by omega)]; omega
  have h2 : min (k % 8) IntKind.u8.bits = k % 8 := by show min (k % 8) 8 = _; omega
  rw [h1, h2, Int.fdiv_eq_ediv_of_nonneg _ (by exact Int.pow_nonneg (by decide))]
  have h3 : ((a : Int) / 2 ^ (k % 8)) = ((a / 2 ^ (k % 8) : Nat) : Int) := by
    rw [Int.natCast_ediv]; congr 1
  have hlt : a / 2 ^ (k % 8) < 256 := Nat.lt_of_le_of_lt (Nat.div_le_self ..) ha
  have h4 : (BitVec.ofInt IntKind.u8.bits ((a : Int) / 2 ^ (k % 8)) &&& BitVec.ofInt IntKind.u8.bits 1).toNat = (a / 2 ^ (k % 8)) % 2 := by
    rw [h3, BitVec.toNat_and, BitVec.toNat_ofInt, BitVec.toNat_ofInt]
    have e1 : (((a / 2 ^ (k % 8) : Nat) : Int) % ((2 ^ IntKind.u8.bits : Nat) : Int)).toNat = a / 2 ^ (k % 8) := by
      rw [show ((2 ^ IntKind.u8.bits : Nat) : Int) = 256 from rfl]
      generalize a / 2 ^ (k % 8) = q at hlt ⊢
      omega
    have e2 : ((1 : Int) % ((2 ^ IntKind.u8.bits : Nat) : Int)).toNat = 1 := rfl
    rw [e1, e2, Nat.and_one_is_mod]
  rw [h4, wrap_u8, wrap_u16]
  have h5 : a.testBit (k % 8) = decide (a / 2 ^ (k % 8) % 2 = 1) := Nat.testBit_eq_decide_div_mod_eq
  rw [h5]
  by_cases h : a / 2 ^ (k % 8) % 2 = 1
  · rw [if_pos (by simpa using h)]; omega
  · rw [if_neg (by simpa using h)]; omega
theorem bor_of {a : Nat} (ha : a < 256) (k : Nat) : bor (a : Int) k = ((a ||| 2 ^ (k % 8) : Nat) : Int) ∧ (a ||| 2 ^ (k % 8)) < 256 := by
  have hp : 2 ^ (k % 8) < 256 := by
    have : k % 8 < 8 := Nat.mod_lt _ (by decide)
    exact Nat.pow_lt_pow_right (by decide) this
  have hor : (a ||| 2 ^ (k % 8)) < 256 := Nat.or_lt_two_pow (n := 8) ha hp
  refine ⟨?_, hor⟩
  unfold bor
  have h1 : ((k : Int).tmod 8).toNat = k % 8 := by rw [Int.tmod_eq_emod_of_nonneg (by omega)]; omega
  have h2 : min (k % 8) IntKind.u8.bits = k % 8 := by show min (k % 8) 8 = _; omega
  rw [h1, h2, wrap_u8, wrap_u8]
  have h3 : (1 * 2 ^ (k % 8) : Int) % 256 = ((2 ^ (k % 8) : Nat) : Int) := by
    rw [Int.one_mul]
    have : ((2 : Int) ^ (k % 8)) = ((2 ^ (k % 8) : Nat) : Int) := by simp
    rw [this]
    generalize 2 ^ (k % 8) = q at hp ⊢
    omega
  rw [h3, BitVec.toNat_or, BitVec.toNat_ofInt, BitVec.toNat_ofInt]
  have e1 : ((a : Int) % ((2 ^ IntKind.u8.bits : Nat) : Int)).toNat = a := by
    rw [show ((2 ^ IntKind.u8.bits : Nat) : Int) = 256 from rfl]; omega
  have e2 : (((2 ^ (k % 8) : Nat) : Int) % ((2 ^ IntKind.u8.bits : Nat) : Int)).toNat = 2 ^ (k % 8) := by
    rw [show ((2 ^ IntKind.u8.bits : Nat) : Int) = 256 from rfl]
    generalize 2 ^ (k % 8) = q at hp ⊢
    omega
  rw [e1, e2]
  generalize (a ||| 2 ^ (k % 8)) = q at hor ⊢
  omega
/-- The bits of its bytes. -/
def tb (l : List Int) (i : Nat) : Bool := (l.getD (i / 8) 0).toNat.testBit (i % 8)
theorem bN_tb (f : Nat → Int) (n : Nat) : ∀ i, tb (bN f n) i = (decide (i < n) && !(f i == 0)) := by
  induction n with
  | zero => intro i; simp [tb, bN]
  | succ k ih =>
    intro i
    have hl := bN_length f k
    have ho : ∀ i, tb (bif k % 8 == 0 then bN f k ++ [0] else bN f k) i = tb (bN f k) i := by
      intro i
      cases h : k % 8 == 0 with
      | false => rfl
      | true =>
        simp only [cond_true, tb]
        by_cases hi : i / 8 < (bN f k).length
        · rw [List.getD_eq_getElem?_getD, List.getD_eq_getElem?_getD, List.getElem?_append_left hi]
        · rw [List.getD_eq_getElem?_getD, List.getD_eq_getElem?_getD, List.getElem?_append_right (by omega), List.getElem?_eq_none (l := bN f k) (by omega)]
          cases hd : i / 8 - (bN f k).length with
          | zero => rfl
          | succ d => rfl
    have hol : (bif k % 8 == 0 then bN f k ++ [0] else bN f k).length = (k + 1 + 7) / 8 := by
      cases h : k % 8 == 0 with
      | true => simp only [cond_true, List.length_append, hl, List.length_singleton]; simp at h; omega
      | false => simp only [cond_false, hl]; simp at h; omega
    have hin : ∀ j, 0 ≤ (bif k % 8 == 0 then bN f k ++ [0] else bN f k).getD j 0 ∧ (bif k % 8 == 0 then bN f k ++ [0] else bN f k).getD j 0 < 256 := by
      intro j
      rw [List.getD_eq_getElem?_getD]
      cases hj : (bif k % 8 == 0 then bN f k ++ [0] else bN f k)[j]? with
      | none => simp
      | some v =>
        simp only [Option.getD_some]
        have hm := List.mem_of_getElem? hj
        cases h : k % 8 == 0 with
        | true =>
          rw [h] at hm
          simp only [cond_true, List.mem_append, List.mem_singleton] at hm
          rcases hm with hm | rfl
          · exact bN_in f k v hm
          · omega
        | false => rw [h] at hm; exact bN_in f k v hm
    simp only [bN]
    generalize (bif k % 8 == 0 then bN f k ++ [0] else bN f k) = o at *
    cases hf : f k == 0 with
    | true =>
      simp only [cond_true]
      rw [ho, ih]
      by_cases hik : i = k
      · subst hik; simp [hf]
      · have : decide (i < k + 1) = decide (i < k) := by rw [decide_eq_decide]; omega
        rw [this]
    | false =>
      simp only [cond_false]
      obtain ⟨h0, h1⟩ := hin (k / 8)
      obtain ⟨a, ha⟩ := Int.eq_ofNat_of_zero_le h0
      have ha' : a < 256 := by omega
      have hb := bor_of ha' k
      by_cases hd : i / 8 = k / 8
      · have e1 : tb (o.set (k / 8) (bor (o.getD (k / 8) 0) k)) i = (tb o i || decide (i = k)) := by
          simp only [tb, hd]
          rw [getD_set, if_pos ⟨rfl, by omega⟩, ha, hb.1]
          simp only [Int.toNat_natCast]
          rw [Nat.testBit_or, Nat.testBit_two_pow]
          congr 1
          rw [decide_eq_decide]
          omega
        rw [e1, ho, ih]
        by_cases hik : i = k
        · subst hik; simp [hf]
        · have : decide (i < k + 1) = decide (i < k) := by rw [decide_eq_decide]; omega
          rw [this, decide_eq_false hik, Bool.or_false]
      · have e1 : tb (o.set (k / 8) (bor (o.getD (k / 8) 0) k)) i = tb o i := by
          simp only [tb]
          rw [getD_set, if_neg (by omega)]
        rw [e1, ho, ih]
        have : decide (i < k + 1) = decide (i < k) := by rw [decide_eq_decide]; omega
        rw [this]
theorem ubit_tb {l : List Int} (h : ∀ v ∈ l, 0 ≤ v ∧ v < 256) (i : Nat) : ubit (l.getD (i / 8) 0) i = if tb l i then 1 else 0 := by
  have h0 : 0 ≤ l.getD (i / 8) 0 ∧ l.getD (i / 8) 0 < 256 := by
    rw [List.getD_eq_getElem?_getD]
    cases hj : l[i / 8]? with
    | none => simp
    | some v => exact h v (List.mem_of_getElem? hj)
  obtain ⟨a, ha⟩ := Int.eq_ofNat_of_zero_le h0.1
  simp only [tb, ha, Int.toNat_natCast]
  exact ubit_of (by omega) i
theorem bN_ubit {f : Nat → Int} {n i : Nat} (h : i < n) : ubit ((bN f n).getD (i / 8) 0) i = if f i == 0 then 0 else 1 := by
  rw [ubit_tb (bN_in f n), bN_tb, decide_eq_true h, Bool.true_and]
  cases f i == 0 <;> rfl
theorem tb_ext {a b : List Int} (ha : ∀ v ∈ a, 0 ≤ v ∧ v < 256) (hb : ∀ v ∈ b, 0 ≤ v ∧ v < 256) (hl : a.length = b.length) (h : ∀ i, tb a i = tb b i) : a = b := by
  refine List.ext_getElem hl fun j h1 h2 => ?_
  have ga := ha _ (List.getElem_mem h1)
  have gb := hb _ (List.getElem_mem h2)
  have e : a[j].toNat = b[j].toNat := by
    apply Nat.eq_of_testBit_eq
    intro t
    by_cases ht : t < 8
    · have := h (8 * j + t)
      simp only [tb, show (8 * j + t) / 8 = j by omega, show (8 * j + t) % 8 = t by omega] at this
      simpa [List.getD_eq_getElem?_getD, h1, h2] using this
    · rw [Nat.testBit_lt_two_pow, Nat.testBit_lt_two_pow]
      · exact Nat.lt_of_lt_of_le (by omega) (Nat.pow_le_pow_right (by decide) (by omega : 8 ≤ t))
      · exact Nat.lt_of_lt_of_le (by omega) (Nat.pow_le_pow_right (by decide) (by omega : 8 ≤ t))
  omega
theorem bN_back {l : List Int} (h : ∀ v ∈ l, 0 ≤ v ∧ v < 256) {f : Nat → Int} (hf : ∀ i, i < 8 * l.length → f i = ubit (l.getD (i / 8) 0) i) : bN f (8 * l.length) = l := by
  refine tb_ext (bN_in _ _) h (by rw [bN_length]; omega) fun i => ?_
  rw [bN_tb]
  by_cases hi : i < 8 * l.length
  · rw [decide_eq_true hi, Bool.true_and, hf i hi, ubit_tb h]
    cases tb l i <;> rfl
  · rw [decide_eq_false hi, Bool.false_and]
    simp only [tb]
    rw [List.getD_eq_getElem?_getD, List.getElem?_eq_none (by omega)]; simp
theorem bit_agree (v : Int) : ((v != 0) == ((if (v == 0) = true then (0 : Int) else 1) == 1)) = true := by
  unfold bne
  cases v == 0 <;> rfl
theorem bit_low (v : Int) : ¬ (if (v == 0) = true then (0 : Int) else 1) > 1 := by split <;> decide
theorem nl_or {b : SS} (h : BOk b) : b.nl = false ∨ b.n = 0 := by
  cases hb : b.nl with
  | false => exact .inl rfl
  | true => exact .inr (h.nil hb)
theorem nlz (n : Nat) : Nat.beq (8 * n) 0 = false ∨ (8 * n + 7) / 8 = 0 := by
  cases n with
  | zero => exact .inr rfl
  | succ n => exact .inl rfl
theorem uL_in (x : SS) (n k : Nat) : ∀ v ∈ uL x n k, 0 ≤ v ∧ v < 65536 := by
  intro v hv
  simp only [uL, mix, tab, List.mem_map, List.mem_range] at hv
  obtain ⟨j, _, rfl⟩ := hv
  split
  · exact ubit_in ..
  · omega
theorem back_b {b : SS} (hb : BOk b) (nl rw : Bool) (m c r : Nat) : List.take ((8 * b.n + 7) / 8) (bN (SS.get ⟨nl, rw, 0, 8 * b.n, c, r, m, uL b (8 * b.n) (8 * b.n)⟩) (8 * b.n)) = List.take b.n (List.drop b.off b.l) := by
  have hv := SS.val_len hb
  have e : bN (SS.get ⟨nl, rw, 0, 8 * b.n, c, r, m, uL b (8 * b.n) (8 * b.n)⟩) (8 * b.val.length) = b.val := bN_back (SS.val_in hb) fun i hi => by
    rw [hv] at hi
    simp only [SS.get, Nat.zero_add]
    rw [uL, mix_getD _ _ _ hi, if_pos hi]
    rw [SS.val_getD (by omega)]; rfl
  rw [hv] at e
  rw [e, List.take_of_length_le (by rw [hv]; omega)]; rfl
noncomputable def LLaw (n : Nat) : Loops := fun body s => match loopId body with
  | _ => some (cntLI Try.f5 body s n (fun k => True) (fun k => [(8, iv k), (4, bv false)]) (fun _ => s.heap))
set_option maxRecDepth 100000 in
theorem bits04_nf (l : SS) (b : SS) : (fnV Try.prog Γ11 (LLaw (SS.n l)) Try.f5 [ssV l 0, ssV b 1] [some (wO l), some (bO b)] fun (v : AV) (x : AHeap) => v = bv true) = (True ∧
  ∀ (x : Unit),
    let q := (SS.n l + 7) / 8;
    let q_1 := decide ((↑(SS.n b) : Int) > 3000);
    let q_2 := AV.val (Value.bool true) = AV.val (Value.bool true);
    let q_3 := Nat.beq (SS.n l) 0;
    Bif (decide ((↑(SS.n l) : Int) > 3000)) q_2
      (Bif q_1 q_2
        (WOk l ∧
          ∀ (x : Nat × Nat),
            let q_4 := SS.mk q_3 true 0 q (q + Prod.fst x) (q + Prod.fst x + Prod.snd x) q (bN (SS.get l) (SS.n l));
            let q := q;
            let q_5 := (↑(lenU (↑(SS.n l) : Int)) : Int) != (↑(SS.n l) : Int);
            let q_6 := q + Prod.fst x;
            let q_7 := [Col.int IntKind.u8 (bN (SS.get l) (SS.n l))];
            let q_8 := [Col.int IntKind.u8 (SS.l b)];
            let q_9 := q_3;
            let q_10 := !inU (↑(SS.n l) : Int);
            BOk q_4 ∧
              ∀ (x_1 : Nat × Nat),
                let q_11 := AO.arr true 33 (lenU (↑(SS.n l) : Int) + Prod.fst x_1 + Prod.snd x_1) (lenU (↑(SS.n l) : Int)) [Col.int IntKind.u16 (uL q_4 (lenU (↑(SS.n l) : Int)) (topU q_4 (↑(SS.n l) : Int)))];
                let q_12 := AO.arr true 5 (q_6 + Prod.snd x) q q_7;
                let q_13 := q_4;
                let q_14 := AV.sl q_9 2 1 0 q q_6;
                let q_15 := AO.arr (SS.rw l) 33 (SS.room l) (SS.m l) [Col.int IntKind.u16 (SS.l l)];
                let q_16 := AV.val (Value.bool q_1);
                let q_17 := AV.sl q_10 3 1 0 (lenU (↑(SS.n l) : Int)) (lenU (↑(SS.n l) : Int) + Prod.fst x_1);
                let q_18 := AV.val (Value.bool q_5);
                let q_19 := AO.arr (SS.rw b) 5 (SS.room b) (SS.m b) q_8;
                let q_20 := AV.sl (SS.nl b) 1 1 (SS.off b) (SS.n b) (SS.cap b);
                let q_21 := AV.sl (SS.nl l) 0 1 (SS.off l) (SS.n l) (SS.cap l);
                let q := q;
                let q_22 := AV.val (Value.bool false) = AV.val (Value.bool true);
                let q_23 := q_2;
                let q_24 := AV.val (Value.int IntKind.i64 0);
                let q_25 := AV.val (Value.bool false) = AV.val (Value.bool false);
                Bif ((↑q : Int) != IntKind.wrap IntKind.i64 (Int.tdiv (IntKind.wrap IntKind.i64 ((↑(SS.n l) : Int) + 7)) 8)) q_22
                  (Bif q_5 q_22
                    (((0 ≤ SS.n l ∧ True) ∧ (q_24 = q_24 ∧ q_25 ∧ q_18 = q_18 ∧ q_17 = q_17 ∧ q_14 = q_14 ∧ q_16 = q_16 ∧ q_23 ∧ q_21 = q_21 ∧ q_20 = q_20 ∧ True) ∧ Bif (AO.deadB q_15) True (q_15 = q_15) ∧ Bif (AO.deadB q_19) True (q_19 = q_19) ∧ Bif (AO.deadB q_12) True (q_12 = q_12) ∧ Bif (AO.deadB q_11) True (q_11 = q_11) ∧ True) ∧
                      ∀ (x_2 : Nat),
                        let q_26 := uL q_13 (lenU (↑(SS.n l) : Int)) (topU q_13 (↑(SS.n l) : Int));
                        let q := q;
                        let q_27 := IntKind.wrap IntKind.i64 (8 * (↑(SS.n b) : Int));
                        let q_28 := lenU (↑(SS.n l) : Int) + Prod.fst x_1;
                        let q_29 := 0 + x_2;
                        let q_30 := q + Prod.fst x;
                        let q_31 := SS.off l + x_2;
                        let q_32 := q_8;
                        let q_33 := q_10;
                        x_2 ≤ SS.n l ∧ True →
                          let q_34 := AO.arr true 33 (q_28 + Prod.snd x_1) (lenU (↑(SS.n l) : Int)) [Col.int IntKind.u16 q_26];
                          let q_35 := List.getD q_26 (0 + Int.toNat (↑x_2 : Int)) 0;
                          let q_36 := AO.arr true 5 (q_30 + Prod.snd x) q q_7;
                          let q_37 := lenU q_27;
                          let q := AV.sl q_9 2 1 0 q q_30;
                          let q_38 := decide (q_29 < lenU (↑(SS.n l) : Int));
                          let q_39 := AV.sl q_33 3 1 0 (lenU (↑(SS.n l) : Int)) q_28;
                          let q_40 := q_15;
                          let q_41 := AO.arr (SS.rw b) 5 (SS.room b) (SS.m b) q_32;
                          let q_42 := decide (q_31 < SS.m l);
                          let q_43 := q_16;
                          let q_44 := x_2 + 1;
                          let q_45 := !q_33 && (inR (↑x_2 : Int) (lenU (↑(SS.n l) : Int)) && q_38);
                          let q_46 := q_18;
                          let q_47 := q_21;
                          let q_48 := q_20;
                          let q_49 := q_27;
                          let q_50 := q_22;
                          let q_51 := q_23;
                          Bif (decide ((↑x_2 : Int) < (↑(SS.n l) : Int))) (Bif (!SS.nl l && (inR (↑x_2 : Int) (SS.n l) && q_42)) (Bif q_42 (Bif q_45 (Bif q_38 (Bif (!(List.getD (SS.l l) (SS.off l + Int.toNat (↑x_2 : Int)) 0 != 0) == (q_35 == 1)) q_50 (Bif q_45 (Bif q_38 (Bif (decide (q_35 > 1)) q_50 ((q_44 ≤ SS.n l ∧ True) ∧ SS.n l - q_44 < SS.n l - x_2 ∧ (AV.val (Value.int IntKind.i64 (IntKind.wrap IntKind.i64 ((↑x_2 : Int) + 1))) = AV.val (Value.int IntKind.i64 (↑q_44 : Int)) ∧ q_25 ∧ q_46 = q_46 ∧ q_39 = q_39 ∧ q = q ∧ q_43 = q_43 ∧ q_51 ∧ q_47 = q_47 ∧ q_48 = q_48 ∧ True) ∧ Bif (AO.deadB q_40) True (q_40 = q_40) ∧ Bif (AO.deadB q_41) True (q_41 = q_41) ∧ Bif (AO.deadB q_36) True (q_36 = q_36) ∧ Bif (AO.deadB q_34) True (q_34 = q_34) ∧ True)) False) False)) False) False) False) False)
                            (BOk b ∧
                              ∀ (x : Nat × Nat),
                                let q := SS.mk (!inU q_49) true 0 q_37 (q_37 + Prod.fst x) (q_37 + Prod.fst x + Prod.snd x) q_37 (uL b q_37 (topU b q_49));
                                let q_52 := q_37;
                                WOk q ∧
                                  ∀ (x : Nat × Nat),
                                    let q_53 := (q_52 + 7) / 8;
                                    let q := bN (SS.get q) q_52;
                                    let q_54 := 0 + q_53;
                                    let q_55 := SS.off b + SS.n b;
                                    Bif (decide (q_54 ≤ q_53) && (longEnough q_54 [Col.int IntKind.u8 q] && (!Nat.beq q_52 0 || decide (q_53 = 0)))) (Bif (decide (q_55 ≤ SS.m b) && (longEnough q_55 q_32 && (!SS.nl b || decide (SS.n b = 0)))) (Bif (ByteArray.toList (strOfNums (List.take q_53 (List.drop 0 q))) == ByteArray.toList (strOfNums (List.take (SS.n b) (List.drop (SS.off b) (SS.l b))))) (BOk b ∧ ∀ (x : Nat × Nat), q_51) q_50) False) False)))))) := by kernel_rfl
set_option maxHeartbeats 1000000 in
theorem bits04_vc (l b : SS) (hl : WOk l) (hb : BOk b) : FnV Try.prog Γ11 (LLaw l.n) Try.f5 [ssV l 0, ssV b 1] [some (wO l), some (bO b)] (fun v _ => v = bv true) := by
  have hnl := hl.nl0
  have hnb := hb.nl0
  have hl' := hl
  have hb' := hb
  obtain ⟨k1, k2, k3, k4, k5, k6, k7⟩ := hl
  obtain ⟨g1, g2, g3, g4, g5, g6, g7⟩ := hb
  refine FnV.of (bits04_nf _ _) ?_
  have u0 : ∀ n : Nat, n ≤ 65536 → inU (n : Int) = true := fun n h => by simp [inU]; omega
  have u1 : ∀ n : Nat, n ≤ 65536 → lenU (n : Int) = n := fun n h => by simp [lenU, u0 n h]
  have t1 : ∀ (x : SS) (n : Nat), n ≤ 65536 → n ≤ 8 * x.n → topU x (n : Int) = n := fun x n h h2 => by simp only [topU, u1 n h]; omega
  have w8 : b.n ≤ 3000 → IntKind.i64.wrap (8 * (b.n : Int)) = ((8 * b.n : Nat) : Int) := fun h => by rw [IntWalk.i64_in _ (by omega)]; omega
  have w7 : l.n ≤ 3000 → IntKind.i64.wrap ((IntKind.i64.wrap ((l.n : Int) + 7)).tdiv 8) = (((l.n + 7) / 8 : Nat) : Int) := fun h => by
    rw [IntWalk.i64_in ((l.n : Int) + 7) (by omega), Int.tdiv_eq_ediv_of_nonneg (by omega), IntWalk.i64_in _ (by omega)]; omega
  have ul : ∀ (y : SS) (n j : Nat), j < n → n ≤ 65536 → n ≤ 8 * y.n → (uL y n n).getD j 0 = ubit (y.get (j / 8)) j := fun y n j h h2 h3 => by
    rw [uL, mix_getD _ _ _ h, if_pos h]
  have t2 : l.n ≤ 3000 → ∀ c r, topU ⟨l.n.beq 0, true, 0, (l.n + 7) / 8, (l.n + 7) / 8 + c, (l.n + 7) / 8 + c + r, (l.n + 7) / 8, bN l.get l.n⟩ (l.n : Int) = l.n := fun h c r => t1 _ _ (by omega) (by show l.n ≤ 8 * ((l.n + 7) / 8); omega)
  have u2 : l.n ≤ 3000 → ∀ c r j, j < l.n → (uL ⟨l.n.beq 0, true, 0, (l.n + 7) / 8, (l.n + 7) / 8 + c, (l.n + 7) / 8 + c + r, (l.n + 7) / 8, bN l.get l.n⟩ l.n l.n).getD j 0 = if l.get j == 0 then 0 else 1 := fun h c r j hj => by
    rw [ul _ _ _ hj (by omega) (by show l.n ≤ 8 * ((l.n + 7) / 8); omega)]
    simp only [SS.get, Nat.zero_add]
    exact bN_ubit hj
  have gl : ∀ j, l.l.getD (l.off + j) 0 = l.get j := fun j => rfl
  have z0 : inU (-1) = false := by decide
  have z1 : lenU (-1) = 0 := by decide
  all_goals try simp only [Bif_need, Bif_True]
  all_goals try simp only [Bif_iff, eq_self, and_true, true_and, AV.val.injEq, AV.agg.injEq, AV.tup.injEq, AV.sl.injEq, AV.ptr.injEq, AV.mp.injEq, Value.int.injEq, Value.bool.injEq, Value.string.injEq, AO.cells.injEq, AO.arr.injEq, AO.mapc.injEq, List.cons.injEq, Col.bool.injEq, Col.int.injEq, Col.str.injEq, MCol.int.injEq, MCol.bool.injEq, MCol.str.injEq, decide_eq_true_eq, decide_eq_false_iff_not, Nat.zero_add, Nat.add_zero, implies_true, Bool.and_eq_true, inR_iff, List.drop_zero, List.take_nil, List.drop_nil, List.nil_append, Int.toNat_natCast, longEnough, colLen, Bool.not_true, Bool.not_false, Bool.true_or, Bool.or_eq_true, Bool.not_eq_true', Bool.not_eq_false', take_take_self, take_tab, one_col, tab_length, mix_length, List.length_take, Nat.min_eq_left, List.set_cons_zero, blt01, Bool.and_false, Bool.and_true, Bool.false_and, Bool.true_and, Bool.false_eq_true, Bool.true_eq_false, false_and, and_false, false_implies]
  all_goals repeat' (first | apply And.intro | intro (⟨k, c, r⟩ : Nat × Nat × Nat) | intro _)
  all_goals try dsimp only at *
  all_goals try omega
  all_goals try have a1 : l.n ≤ 3000 := by omega
  all_goals try have a2 : b.n ≤ 3000 := by omega
  all_goals try simp only [w7 a1, w8 a2, u1 l.n (by omega), u0 l.n (by omega), u1 (8 * b.n) (by omega), u0 (8 * b.n) (by omega), t1 b (8 * b.n) (by omega) (Nat.le_refl _), bN_length, z0, z1] at *
  all_goals try simp only [t2 a1, gl] at *
  all_goals try simp only [u2 a1 _ _ _ (Int.ofNat_lt.1 ‹_›)] at *
  all_goals first
    | assumption
    | omega
    | rfl
    | exact hnl (by omega)
    | exact newOk (bN_length _ _) (by omega) (bN_in _ _) (fun h => by have := Nat.eq_of_beq_eq_true h; omega)
    | exact newOk (mix_length _ _ _ _) (by omega) (uL_in _ _ _) (fun h => by cases h)
    | exact nlz _
    | exact decide_eq_true (by omega)
    | exact nl_or hb'
    | (have h := ‹((_ != _) == _) = false›; rw [bit_agree] at h; cases h; done)
    | exact absurd ‹_› (bit_low _)
    | (have h := ‹(_ == _) = false›; rw [back_b hb', beq_self_eq_true] at h; cases h; done)
    | (simp at *; done)
    | (rw [IntWalk.i64_in _ (by omega)]; omega)
end Go.Wk.P04
