/-
  Bytes put behind bytes; bits; under the rows' own bounds.
-/
import Derived.Test.YtmbeekfbnfndgaaPc
namespace Go.Wk.P04
open Go Go.Vs Go.Proofs
set_option linter.unusedSimpArgs false
set_option linter.unusedVariables false
set_option maxRecDepth 10000

/-! sized -/
def SizedS : Sp where
  X := OB × SS
  Y := fun _ => Nat × Nat
  y0 := fun _ => (0, 0)
  pat := fun x => ([obV x.1 0, ssV x.2 1], [some (oO x.1), some (bO x.2)])
  fnd := fun args H => match args with
    | [v, w] => (match fndO 5 .u8 v H, fndS 5 .u8 w H with | some (s, b), some (t, c) => some ((s, t), [b, c]) | _, _ => none)
    | _ => none
  pre := fun x => Own x.1 ∧ BOk x.2
  res := fun x y => ⟨ownV false 2 (x.1.n + 1 + x.2.n) y.1, [(0, none)], [ownO (x.1.n + 1 + x.2.n) y (x.1.l ++ [(x.2.n : Int) % 256] ++ x.2.val)]⟩
  pick := fun x v H => (pkO (x.1.n + 1 + x.2.n) v H).map fun (y, b) => (y, [0, 1, b])
theorem SizedS_found : SizedS.spec.Found := by
  intro args H x σ h
  simp only [Sp.spec, SizedS] at h
  split at h
  rotate_left
  · cases h
  split at h
  rotate_left
  · cases h
  rename_i s b t c hs ht
  cases h
  obtain ⟨rfl, h2⟩ := fndO_found hs
  obtain ⟨rfl, h3⟩ := fndS_found ht
  exact ⟨rfl, fun i ao hi => by
    match i, hi with
    | 0, hi => obtain rfl := Option.some.inj (Option.some.inj hi); exact h2
    | 1, hi => obtain rfl := Option.some.inj (Option.some.inj hi); exact h3⟩
set_option maxRecDepth 100000 in
theorem sized_nf (s : OB) (t : SS) : (fnV Try.prog Γnone (fun (x : Code) (x_1 : AS) => none) Try.f53 [obV s 0, ssV t 1] [some (oO s), some (bO t)] (Sp.good SizedS (s, t))) = (let q := OB.n s + 1; let q_1 := 0 + OB.n s; let q_2 := 0 + OB.cap s; let q_3 := q * 1; Bif (decide (q_1 ≤ OB.m s) && (longEnough q_1 [Col.int IntKind.u8 (OB.l s)] && (!OB.nl s || decide (OB.n s = 0))) && (decide (q_3 ≤ 140737488355328) && decide (q ≤ 9223372036854775807)) && (decide (q_2 ≤ OB.room s) && (!OB.nl s || decide (OB.cap s = 0)))) (∀ (x : Nat), let q_4 := q + x; let q_5 := q + SS.n t; let q_6 := List.take (OB.n s) (List.drop 0 (OB.l s)) ++ List.take 1 (List.drop 0 (List.set (List.replicate 1 0) 0 (IntKind.wrap IntKind.u8 (↑(SS.n t) : Int)))); let q_7 := 0 + q; let q := q; let q_8 := SS.off t + SS.n t; let q_9 := 0 + q_4; let q_10 := q_5 * 1; let q_11 := [Col.int IntKind.u8 (SS.l t)]; Bif (decide (q_7 ≤ q) && (longEnough q_7 [Col.int IntKind.u8 q_6] && (!(OB.nl s && false) || false)) && (decide (q_8 ≤ SS.m t) && (longEnough q_8 q_11 && (!SS.nl t || decide (SS.n t = 0))) && (decide (q_10 ≤ 140737488355328) && decide (q_5 ≤ 9223372036854775807))) && (decide (q_9 ≤ q_4) && (!(OB.nl s && false) || decide (q_4 = 0)))) (∀ (x : Nat), let q_12 := q_5; let q_13 := OB.l s ++ [(↑(SS.n t) : Int) % 256] ++ SS.val t; let q_14 := q_12 + x; let q_15 := AO.arr (SS.rw t) 5 (SS.room t) (SS.m t) q_11; let q_16 := q_12 + (q_14 - q_12); let q_17 := q_14 - q_14; (AV.sl (OB.nl s && false && !Nat.blt 0 (SS.n t)) 4 1 0 q_12 q_14 = AV.sl false 4 1 0 q_12 q_16 ∧ True) ∧ Bif (AO.deadB (bO t)) True (q_15 = q_15) ∧ Bif (AO.deadB (ownO q_12 (q_14 - q_12, q_17) q_13)) True (AO.arr true 5 q_14 q_12 [Col.int IntKind.u8 (List.take q (List.drop 0 q_6) ++ List.take (SS.n t) (List.drop (SS.off t) (SS.l t)))] = AO.arr true 5 (q_16 + q_17) q_12 [Col.int IntKind.u8 q_13]) ∧ True) False) False) := by kernel_rfl
set_option maxHeartbeats 1000000 in
theorem sized_vc (s : OB) (t : SS) (hs : Own s) (ht : BOk t) : FnV Try.prog Γnone (fun _ _ => none) Try.f53 [obV s 0, ssV t 1] [some (oO s), some (bO t)] (SizedS.good (s, t)) := by
  have hn2 := ht.nl0
  obtain ⟨h1, h2, h3, h4, h5, h6⟩ := hs
  obtain ⟨k1, k2, k3, k4, k5, k6, k7⟩ := ht
  refine FnV.of (sized_nf _ _) ?_
  all_goals try simp only [Bif_need, Bif_True]
  all_goals try simp only [Bif_iff, eq_self, and_true, true_and, AV.val.injEq, AV.agg.injEq, AV.tup.injEq, AV.sl.injEq, AV.ptr.injEq, AV.mp.injEq, Value.int.injEq, Value.bool.injEq, Value.string.injEq, AO.cells.injEq, AO.arr.injEq, AO.mapc.injEq, List.cons.injEq, Col.bool.injEq, Col.int.injEq, Col.str.injEq, MCol.int.injEq, MCol.bool.injEq, MCol.str.injEq, decide_eq_true_eq, decide_eq_false_iff_not, Nat.zero_add, Nat.add_zero, implies_true, Bool.and_eq_true, inR_iff, List.drop_zero, List.take_nil, List.drop_nil, List.nil_append, Int.toNat_natCast, longEnough, colLen, Bool.not_true, Bool.not_false, Bool.true_or, Bool.or_eq_true, Bool.not_eq_true', Bool.not_eq_false', take_take_self, take_tab, one_col, tab_length, mix_length, List.length_take, Nat.min_eq_left, List.set_cons_zero, blt01, Bool.and_false, Bool.and_true, Bool.false_and, Bool.true_and, Bool.false_eq_true, Bool.true_eq_false, false_and, and_false, false_implies]
  all_goals repeat' (first | apply And.intro | intro (⟨k, c, r⟩ : Nat × Nat × Nat) | intro _)
  all_goals try dsimp only at *
  all_goals try omega
  all_goals first
    | omega
    | exact hn2 (by omega)
    | (rw [IntWalk.i64_in _ (by omega)]; omega)
    | (rw [List.take_of_length_le (l := s.l) (by omega), List.take_of_length_le (by simp [h1]), wrap_u8]; rfl)
    | grind

theorem sized_ok : CtOk Try.prog 53 SizedS.ct := Sp.ok CtsOk.none hm Try.func53 SizedS SizedS_found (fun _ _ _ => none) (fun x h => sized_vc x.1 x.2 h.1 h.2)

/-! Bits -/
def bN (f : Nat → Int) : Nat → List Int
  | 0 => []
  | k + 1 => let o := bif k % 8 == 0 then bN f k ++ [0] else bN f k
    bif f k == 0 then o else o.set (k / 8) (bor (o.getD (k / 8) 0) k)
theorem bN_length (f : Nat → Int) (k : Nat) : (bN f k).length = (k + 7) / 8 := by
  induction k with
  | zero => rfl
  | succ k ih =>
    have : (bif k % 8 == 0 then bN f k ++ [0] else bN f k).length = (k + 1 + 7) / 8 := by
      cases h : k % 8 == 0 with
      | true => simp only [cond_true, List.length_append, ih, List.length_singleton]; simp at h; omega
      | false => simp only [cond_false, ih]; simp at h; omega
    simp only [bN]
    cases f k == 0 <;> simp only [cond_true, cond_false, List.length_set, this]

noncomputable def LBits (x : SS) : Loops := fun body s => match loopId body with
  | _ => some (mkLI Try.f33 body s (X := Nat × Nat × Nat) (0, 0, 0) [0, 1] (fun (k, c, r) => k ≤ x.n ∧ (k = 0 → True → c = 0)) (fun (k, c, r) => x.n - k)
      (fun (k, c, r) => [(8, iv k), (3, ownV (Nat.beq k 0) 1 ((k + 7) / 8) c)])
      (fun (k, c, r) => [some (wO x), some (ownO ((k + 7) / 8) (c, r) (bN x.get k))])
      (fun (k, c, r) s => match Go.Vs.look s.env 3 with
        | some v => (pkO ((k + 1 + 7) / 8) v s.heap).map fun ((c, r), b) => ((k + 1, c, r), [0, b])
        | none => none))
def BitsS : Sp where
  X := SS
  Y := fun _ => Nat × Nat
  y0 := fun _ => (0, 0)
  pat := fun x => ([ssV x 0], [some (wO x)])
  fnd := fun args H => match args with
    | [w] => (match fndS 44 .u16 w H with | some (t, c) => some (t, [c]) | _ => none)
    | _ => none
  pre := WOk
  res := fun x y => ⟨ownV (Nat.beq x.n 0) 1 ((x.n + 7) / 8) y.1, [], [ownO ((x.n + 7) / 8) y (bN x.get x.n)]⟩
  pick := fun x v H => (pkO ((x.n + 7) / 8) v H).map fun (y, b) => (y, [0, b])
set_option maxRecDepth 100000 in
theorem bits_nf (t : SS) : (fnV Try.prog Γnone (LBits t) Try.f33 [ssV t 0] [some (wO t)] (Sp.good BitsS t)) = (let q := AV.sl (SS.nl t) 0 1 (SS.off t) (SS.n t) (SS.cap t) = AV.sl (SS.nl t) 0 1 (SS.off t) (SS.n t) (SS.cap t); let q_1 := AO.arr (SS.rw t) 44 (SS.room t) (SS.m t) [Col.int IntKind.u16 (SS.l t)]; let q_2 := 0 = 0; let q_3 := AV.val (Value.slice none 0 0); let q_4 := AV.val (Value.int IntKind.i64 (↑(SS.n t) : Int)); let q_5 := AV.val (Value.int IntKind.i64 0); ((0 ≤ SS.n t ∧ (q_2 → True → q_2)) ∧ (q_5 = q_5 ∧ (true = true ∧ q_2 ∧ q_2) ∧ q_4 = q_4 ∧ q ∧ q_3 = q_3 ∧ q ∧ True) ∧ Bif (AO.deadB q_1) True (q_1 = q_1) ∧ True ∧ True) ∧ ∀ (x : Nat × Nat × Nat), let q_6 := (x.1 + 1 + 7) / 8; let q_7 := (x.1 + 7) / 8; let q := q; let q_8 := x.1 + 1; let q_9 := q_1; let q_10 := SS.off t + Int.toNat (↑x.1 : Int); let q_11 := q_3; let q_12 := q_6 + (q_7 + x.2.1 - q_6); let q_13 := LBits.match_1 (fun (x : Nat × Nat × Nat) => Nat) x fun (k c r : Nat) => SS.n t - k; let q_14 := IntKind.wrap IntKind.i64 (Int.tdiv (↑x.1 : Int) 8); let q_15 := AV.val (Value.int IntKind.i64 (IntKind.wrap IntKind.i64 ((↑x.1 : Int) + 1))); let q_16 := q_4; let q_17 := Nat.beq x.1 0; let q_18 := [Col.int IntKind.u8 (bN (SS.get t) x.1)]; let q_19 := Int.tmod (↑x.1 : Int) 8; let q_20 := q_7 + x.2.1; x.1 ≤ SS.n t ∧ (x.1 = 0 → True → x.2.1 = 0) → let q_21 := AO.arr true 5 (q_12 + (q_7 + Prod.fst x.2 + Prod.snd x.2 - q_20)) q_6 [Col.int IntKind.u8 (bN (SS.get t) q_8)]; let q_22 := q_7 + 1; let q_23 := q_15 = AV.val (Value.int IntKind.i64 (↑q_8 : Int)) ∧ AV.sl q_17 1 1 0 q_7 q_20 = AV.sl false 1 1 0 q_6 q_12 ∧ q_16 = q_16 ∧ q ∧ q_11 = q_11 ∧ q ∧ True; let q_24 := q_7; let q_25 := q_6; let q_26 := 0 + Int.toNat q_14; let q_27 := (LBits.match_1 (fun (x : Nat × Nat × Nat) => Nat) (q_8, q_24 + x.2.1 - q_25, q_24 + Prod.fst x.2 + Prod.snd x.2 - (q_24 + x.2.1)) fun (k c r : Nat) => SS.n t - k) < q_13; let q_28 := Bif (AO.deadB q_9) True (q_9 = q_9); let q_29 := (SS.n t + 7) / 8; let q_30 := q_24 + Prod.fst x.2 + Prod.snd x.2; let q_31 := q_8 ≤ SS.n t ∧ (q_8 = 0 → True → q_24 + x.2.1 - q_25 = 0); let q_32 := q_8; let q_33 := BitVec.ofInt (IntKind.bits IntKind.u8) (IntKind.wrap IntKind.u8 (1 * 2 ^ min (Int.toNat q_19) (IntKind.bits IntKind.u8))); let q_34 := q_24 + x.2.1; let q := q; let q_35 := decide (q_10 < SS.m t); let q_36 := !q_17 && (inR q_14 q_24 && decide (q_26 < q_24)); let q_37 := List.getD (SS.l t) q_10 0 != 0; let q_38 := 0 + q_24; let q_39 := q_9; let q_40 := AO.arr true 5 q_30 q_24 q_18; let q_41 := q_29 + (q_34 - q_29); let q_42 := q_17; let q_43 := q_11; let q_44 := q_22 * 1; let q_45 := 0 + q_34; let q_46 := q_30 - q_34; let q_47 := decide (q_26 < q_24); let q_48 := q_16; let q_49 := List.length (bN (SS.get t) x.1); Bif (decide ((↑x.1 : Int) < (↑(SS.n t) : Int))) (Bif (!SS.nl t && (inR (↑x.1 : Int) (SS.n t) && q_35)) (Bif q_35 (Bif (q_19 == 0) (Bif (decide (q_38 ≤ q_24) && (longEnough q_38 q_18 && (!q_42 || decide (q_24 = 0))) && (decide (q_44 ≤ 140737488355328) && decide (q_22 ≤ 9223372036854775807)) && (decide (q_45 ≤ q_30) && (!q_42 || decide (q_34 = 0)))) (∀ (x_2 : Nat), let q_50 := AO.arr true 5 (q_25 + (q_22 + x_2 - q_25) + (q_22 + x_2 - (q_22 + x_2))) q_25 [Col.int IntKind.u8 (bN (SS.get t) q_32)]; let q := q_15 = AV.val (Value.int IntKind.i64 (↑q_32 : Int)) ∧ AV.sl (q_42 && false) 3 1 0 q_22 (q_22 + x_2) = AV.sl false 3 1 0 q_25 (q_25 + (q_22 + x_2 - q_25)) ∧ q_48 = q_48 ∧ q ∧ q_43 = q_43 ∧ q ∧ True; let q_51 := List.take q_24 (List.drop 0 (bN (SS.get t) x.1)) ++ List.take 1 (List.drop 0 (List.set (List.replicate 1 0) 0 0)); let q_52 := (LBits.match_1 (fun (x : Nat × Nat × Nat) => Nat) (q_32, q_22 + x_2 - q_25, q_22 + x_2 - (q_22 + x_2)) fun (k c r : Nat) => SS.n t - k) < q_13; let q_53 := decide (q_26 < q_22); let q_54 := q_32 ≤ SS.n t ∧ (q_32 = 0 → True → q_22 + x_2 - q_25 = 0); let q_55 := q_22; let q_56 := q_26; let q_57 := q_28; let q_58 := !(q_42 && false) && (inR q_14 q_55 && q_53); let q_59 := q_55 + x_2; Bif q_37 (Bif q_58 (Bif q_53 (Bif q_58 (Bif (q_53 && (decide (q_56 < List.length q_51) && true)) (q_54 ∧ q_52 ∧ q ∧ q_57 ∧ Bif (AO.deadB q_50) True (AO.arr true 5 q_59 q_55 [Col.int IntKind.u8 (List.set q_51 q_56 (IntKind.wrap IntKind.u8 (↑(BitVec.toNat (BitVec.ofInt (IntKind.bits IntKind.u8) (List.getD q_51 q_56 0) ||| q_33)) : Int)))] = q_50) ∧ True) False) False) False) False) (q_54 ∧ q_52 ∧ q ∧ q_57 ∧ Bif (AO.deadB q_50) True (AO.arr true 5 q_59 q_55 [Col.int IntKind.u8 q_51] = q_50) ∧ True)) False) (Bif q_37 (Bif q_36 (Bif q_47 (Bif q_36 (Bif (q_47 && (decide (q_26 < q_49) && true)) (q_31 ∧ q_27 ∧ q_23 ∧ q_28 ∧ Bif (AO.deadB q_21) True (AO.arr true 5 q_30 q_24 [Col.int IntKind.u8 (List.set (bN (SS.get t) x.1) q_26 (IntKind.wrap IntKind.u8 (↑(BitVec.toNat (BitVec.ofInt (IntKind.bits IntKind.u8) (List.getD (bN (SS.get t) x.1) q_26 0) ||| q_33)) : Int)))] = q_21) ∧ True) False) False) False) False) (q_31 ∧ q_27 ∧ q_23 ∧ q_28 ∧ Bif (AO.deadB q_21) True (q_40 = q_21) ∧ True))) False) False) ((AV.sl q_42 1 1 0 q_24 q_34 = AV.sl (Nat.beq (SS.n t) 0) 1 1 0 q_29 q_41 ∧ True) ∧ Bif (AO.deadB (wO t)) True (q_39 = q_39) ∧ Bif (AO.deadB (ownO q_29 (q_34 - q_29, q_46) (bN (SS.get t) (SS.n t)))) True (q_40 = AO.arr true 5 (q_41 + q_46) q_29 [Col.int IntKind.u8 (bN (SS.get t) (SS.n t))]) ∧ True)) := by kernel_rfl
set_option maxHeartbeats 1000000 in
theorem bits_vc (t : SS) (ht : WOk t) : FnV Try.prog Γnone (LBits t) Try.f33 [ssV t 0] [some (wO t)] (BitsS.good t) := by
  have hn2 := ht.nl0
  obtain ⟨k1, k2, k3, k4, k5, k6, k7⟩ := ht
  refine FnV.of (bits_nf _) ?_
  all_goals try simp only [Bif_need, Bif_True]
  all_goals try simp only [Bif_iff, eq_self, and_true, true_and, AV.val.injEq, AV.agg.injEq, AV.tup.injEq, AV.sl.injEq, AV.ptr.injEq, AV.mp.injEq, Value.int.injEq, Value.bool.injEq, Value.string.injEq, AO.cells.injEq, AO.arr.injEq, AO.mapc.injEq, List.cons.injEq, Col.bool.injEq, Col.int.injEq, Col.str.injEq, MCol.int.injEq, MCol.bool.injEq, MCol.str.injEq, decide_eq_true_eq, decide_eq_false_iff_not, Nat.zero_add, Nat.add_zero, implies_true, Bool.and_eq_true, inR_iff, List.drop_zero, List.take_nil, List.drop_nil, List.nil_append, Int.toNat_natCast, longEnough, colLen, Bool.not_true, Bool.not_false, Bool.true_or, Bool.or_eq_true, Bool.not_eq_true', Bool.not_eq_false', take_take_self, take_tab, one_col, tab_length, mix_length, List.length_take, Nat.min_eq_left, List.set_cons_zero, blt01, Bool.and_false, Bool.and_true, Bool.false_and, Bool.true_and, Bool.false_eq_true, Bool.true_eq_false, false_and, and_false, false_implies, tm8]
  all_goals repeat' (first | apply And.intro | intro (⟨k, c, r⟩ : Nat × Nat × Nat) | intro _)
  all_goals try dsimp only at *
  all_goals try omega
  all_goals try (have hk := ‹_ ≤ t.n ∧ (_ → _)›.1; have hc := ‹_ ≤ t.n ∧ (_ → _)›.2)
  all_goals try simp (disch := omega) only [td8, Int.toNat_natCast]
  all_goals try simp only [List.take_of_length_le (Nat.le_of_eq (bN_length _ _)), List.length_append, bN_length, List.length_singleton]
  all_goals try simp only [beq_iff_eq, beq_eq_false_iff_ne, ne_eq, bne_iff_ne, bne_eq_false_iff_eq] at *
  all_goals first
    | omega
    | exact hn2 (by omega)
    | (cases k <;> first | omega | rfl)
    | exact nlb (b := true) (fun _ h2 => by have := hc h2 trivial; omega)
    | (have e := Nat.le_antisymm hk (by omega); subst e; rfl)
    | (rw [IntWalk.i64_in _ (by omega)]; omega)
    | (simp only [bN, SS.get, *]; rfl)
    | grind [bN, SS.get, bor]
theorem BitsS_found : BitsS.spec.Found := by
  intro args H x σ h
  simp only [Sp.spec, BitsS] at h
  split at h
  rotate_left
  · cases h
  split at h
  rotate_left
  · cases h
  rename_i t c ht
  cases h
  obtain ⟨rfl, h3⟩ := fndS_found ht
  exact ⟨rfl, fun i ao hi => by
    match i, hi with
    | 0, hi => obtain rfl := Option.some.inj (Option.some.inj hi); exact h3⟩
theorem bits_ok : CtOk Try.prog 33 BitsS.ct := Sp.ok CtsOk.none hm Try.func33 BitsS BitsS_found LBits bits_vc

/-! Unbits -/
def inU (n : Int) : Bool := decide (0 ≤ n) && decide (n ≤ 65536)
def lenU (n : Int) : Nat := bif inU n then n.toNat else 0
def topU (x : SS) (n : Int) : Nat := min (lenU n) (8 * x.n)
theorem topU_of {x : SS} {n : Int} (h1 : 0 ≤ n) (h2 : n ≤ 65536) : topU x n = min n.toNat (8 * x.n) := by simp [topU, lenU, inU, h1, h2]
theorem lenU_of {n : Int} (h1 : 0 ≤ n) (h2 : n ≤ 65536) : lenU n = n.toNat := by simp [lenU, inU, h1, h2]
theorem inU_no {n : Int} (h : ¬ (0 ≤ n ∧ n ≤ 65536)) : inU n = false ∧ lenU n = 0 := by
  have : inU n = false := by simp only [inU, Bool.and_eq_false_iff, decide_eq_false_iff_not]; omega
  exact ⟨this, by simp [lenU, this]⟩
def uL (x : SS) (len : Nat) (k : Nat) : List Int := mix len k (fun j => ubit (x.get (j / 8)) j) (fun _ => 0)
noncomputable def LUnbits (x : SS × Int) : Loops := fun body s => match loopId body with
  | _ => some (cntLI Try.f35 body s (topU x.1 x.2) (fun _ => True) (fun k => [(17, iv k)]) (fun k => [some (bO x.1), some (.arr true 44 x.2.toNat x.2.toNat [.int .u16 (uL x.1 x.2.toNat k)])]))
def UnbitsS : Sp where
  X := SS × Int
  Y := fun _ => Nat × Nat
  y0 := fun _ => (0, 0)
  pat := fun x => ([ssV x.1 0, iv x.2], [some (bO x.1)])
  fnd := fun args H => match args with
    | [w, .val (.int .i64 n)] => (match fndS 5 .u8 w H with | some (t, c) => some ((t, n), [c]) | _ => none)
    | _ => none
  pre := fun x => BOk x.1
  res := fun x y => ⟨.sl (!inU x.2) 1 1 0 (lenU x.2) (lenU x.2 + y.1), [], [.arr true 44 (lenU x.2 + y.1 + y.2) (lenU x.2) [.int .u16 (uL x.1 (lenU x.2) (topU x.1 x.2))]]⟩
  pick := fun x v H => (pkO (lenU x.2) v H).map fun (y, b) => (y, [0, b])
theorem UnbitsS_found : UnbitsS.spec.Found := by
  intro args H x σ h
  simp only [Sp.spec, UnbitsS] at h
  split at h
  rotate_left
  · cases h
  split at h
  rotate_left
  · cases h
  rename_i t c ht
  cases h
  obtain ⟨rfl, h3⟩ := fndS_found ht
  exact ⟨rfl, fun i ao hi => by
    match i, hi with
    | 0, hi => obtain rfl := Option.some.inj (Option.some.inj hi); exact h3⟩
set_option maxRecDepth 100000 in
theorem unbits_nf (t : SS) (n : Int) : (fnV Try.prog Γ0 (LUnbits (t, n)) Try.f35 [ssV t 0, iv n] [some (bO t)] (Sp.good UnbitsS (t, n))) = (let q := (((!inU n) = true ∧ lenU n = 0 ∧ lenU n + (0 - lenU n) = 0) ∧ True) ∧ Bif (AO.deadB (bO t)) True (AO.arr (SS.rw t) 5 (SS.room t) (SS.m t) [Col.int IntKind.u8 (SS.l t)] = AO.arr (SS.rw t) 5 (SS.room t) (SS.m t) [Col.int IntKind.u8 (SS.l t)]) ∧ Bif (AO.deadB (AO.arr true 44 (lenU n + (0 - lenU n) + 0) (lenU n) [Col.int IntKind.u16 (uL t (lenU n) (topU t n))])) True False ∧ True; let q_1 := AV.val (Value.int IntKind.i64 (if IntKind.wrap IntKind.i64 (8 * (↑(SS.n t) : Int)) < n then IntKind.wrap IntKind.i64 (8 * (↑(SS.n t) : Int)) else n)); let q_2 := AO.arr (SS.rw t) 5 (SS.room t) (SS.m t) [Col.int IntKind.u8 (SS.l t)]; let q_3 := AV.sl false 1 1 0 (Int.toNat n) (Int.toNat n); let q_4 := AV.val (Value.bool !decide (n ≤ 65536)); let q_5 := AV.sl (SS.nl t) 0 1 (SS.off t) (SS.n t) (SS.cap t); let q_6 := AV.val (Value.slice none 0 0); let q_7 := AO.arr true 44 (Int.toNat n) (Int.toNat n) [Col.int IntKind.u16 (uL t (Int.toNat n) 0)]; let q_8 := (↑2 : Int) * n; let q_9 := AV.val (Value.int IntKind.i64 n) = AV.val (Value.int IntKind.i64 n) ∧ True; let q_10 := AV.val (Value.int IntKind.i64 0); Bif (decide (n ≥ 0)) (Bif (!decide (n ≤ 65536)) q (Bif (decide (0 ≤ n) && decide (n ≤ n) && decide (q_8 ≤ 281474976710656)) (((0 ≤ topU t n ∧ True) ∧ (q_10 = q_10 ∧ q_1 = q_1 ∧ q_3 = q_3 ∧ q_4 = q_4 ∧ q_6 = q_6 ∧ q_5 = q_5 ∧ q_9) ∧ Bif (AO.deadB q_2) True (q_2 = q_2) ∧ Bif (AO.deadB q_7) True (AO.arr true 44 (Int.toNat n) (Int.toNat n) [Col.int IntKind.u16 (List.replicate (Int.toNat n) 0)] = q_7) ∧ True) ∧ ∀ (x : Nat), let q := q_2; let q_11 := IntKind.wrap IntKind.i64 (8 * (↑(SS.n t) : Int)); let q_12 := SS.off t + Int.toNat (IntKind.wrap IntKind.i64 (Int.tdiv (↑x : Int) 8)); let q_13 := lenU n + (Int.toNat n - lenU n); x ≤ topU t n ∧ True → let q_14 := if q_11 < n then q_11 else n; let q_15 := decide (q_12 < SS.m t); let q_16 := q = q; let q_17 := q_3; let q_18 := 0 + x; let q_19 := x + 1; let q_20 := q_13 + (Int.toNat n - Int.toNat n); let q_21 := AO.arr true 44 (Int.toNat n) (Int.toNat n) [Col.int IntKind.u16 (uL t (Int.toNat n) q_19)]; let q_22 := q_4; let q_23 := q_5; let q_24 := q_6; let q_25 := [Col.int IntKind.u16 (uL t (lenU n) (topU t n))]; let q_26 := IntKind.wrap IntKind.i64 (Int.tdiv (↑x : Int) 8); let q_27 := decide (q_18 < Int.toNat n); let q_28 := List.length (uL t (Int.toNat n) x); Bif (decide ((↑x : Int) < q_14)) (Bif (!SS.nl t && (inR q_26 (SS.n t) && q_15)) (Bif q_15 (Bif (inR (↑x : Int) (Int.toNat n) && q_27) (Bif (q_27 && (decide (q_18 < q_28) && true)) ((q_19 ≤ topU t n ∧ True) ∧ topU t n - q_19 < topU t n - x ∧ (AV.val (Value.int IntKind.i64 (IntKind.wrap IntKind.i64 ((↑x : Int) + 1))) = AV.val (Value.int IntKind.i64 (↑q_19 : Int)) ∧ AV.val (Value.int IntKind.i64 q_14) = AV.val (Value.int IntKind.i64 q_14) ∧ q_17 = q_17 ∧ q_22 = q_22 ∧ q_24 = q_24 ∧ q_23 = q_23 ∧ q_9) ∧ Bif (AO.deadB q) True q_16 ∧ Bif (AO.deadB q_21) True (AO.arr true 44 (Int.toNat n) (Int.toNat n) [Col.int IntKind.u16 (List.set (uL t (Int.toNat n) x) (0 + Int.toNat (↑x : Int)) (IntKind.wrap IntKind.u16 (IntKind.wrap IntKind.u8 (↑(BitVec.toNat (BitVec.ofInt (IntKind.bits IntKind.u8) (Int.fdiv (List.getD (SS.l t) (SS.off t + Int.toNat q_26) 0) (2 ^ min (Int.toNat (Int.tmod (↑x : Int) 8)) (IntKind.bits IntKind.u8))) &&& BitVec.ofInt (IntKind.bits IntKind.u8) 1)) : Int))))] = q_21) ∧ True) False) False) False) False) ((q_17 = AV.sl (!inU n) 1 1 0 (lenU n) q_13 ∧ True) ∧ Bif (AO.deadB (bO t)) True q_16 ∧ Bif (AO.deadB (AO.arr true 44 q_20 (lenU n) q_25)) True (AO.arr true 44 (Int.toNat n) (Int.toNat n) [Col.int IntKind.u16 (uL t (Int.toNat n) x)] = AO.arr true 44 q_20 (lenU n) q_25) ∧ True)) False)) q) := by kernel_rfl
set_option maxHeartbeats 1000000 in
theorem unbits_vc (t : SS) (n : Int) (ht : BOk t) : FnV Try.prog Γ0 (LUnbits (t, n)) Try.f35 [ssV t 0, iv n] [some (bO t)] (UnbitsS.good (t, n)) := by
  have hn2 := ht.nl0
  obtain ⟨k1, k2, k3, k4, k5, k6, k7⟩ := ht
  refine FnV.of (unbits_nf _ _) ?_
  have hw : IntKind.i64.wrap (8 * (t.n : Int)) = 8 * (t.n : Int) := IntWalk.i64_in _ (by omega)
  have e1 : 0 ≤ n → n ≤ 65536 → inU n = true := fun h1 h2 => by simp [inU, h1, h2]
  have e2 : 0 ≤ n → n ≤ 65536 → lenU n = n.toNat := lenU_of
  have e3 : 0 ≤ n → n ≤ 65536 → topU t n = min n.toNat (8 * t.n) := topU_of
  have e4 : ¬ (0 ≤ n ∧ n ≤ 65536) → inU n = false := fun h => (inU_no h).1
  have e5 : ¬ (0 ≤ n ∧ n ≤ 65536) → lenU n = 0 := fun h => (inU_no h).2
  have e6 : ∀ k, (uL t n.toNat k).length = n.toNat := fun k => mix_length ..
  all_goals try simp only [Bif_need, Bif_True]
  all_goals try simp only [Bif_iff, eq_self, and_true, true_and, AV.val.injEq, AV.agg.injEq, AV.tup.injEq, AV.sl.injEq, AV.ptr.injEq, AV.mp.injEq, Value.int.injEq, Value.bool.injEq, Value.string.injEq, AO.cells.injEq, AO.arr.injEq, AO.mapc.injEq, List.cons.injEq, Col.bool.injEq, Col.int.injEq, Col.str.injEq, MCol.int.injEq, MCol.bool.injEq, MCol.str.injEq, decide_eq_true_eq, decide_eq_false_iff_not, Nat.zero_add, Nat.add_zero, implies_true, Bool.and_eq_true, inR_iff, List.drop_zero, List.take_nil, List.drop_nil, List.nil_append, Int.toNat_natCast, longEnough, colLen, Bool.not_true, Bool.not_false, Bool.true_or, Bool.or_eq_true, Bool.not_eq_true', Bool.not_eq_false', take_take_self, take_tab, one_col, tab_length, mix_length, List.length_take, Nat.min_eq_left, List.set_cons_zero, blt01, Bool.and_false, Bool.and_true, Bool.false_and, Bool.true_and, Bool.false_eq_true, Bool.true_eq_false, false_and, and_false, false_implies, tm8, hw]
  all_goals repeat' (first | apply And.intro | intro (⟨k, c, r⟩ : Nat × Nat × Nat) | intro _)
  all_goals try dsimp only at *
  all_goals try omega
  all_goals try simp (disch := omega) only [e1, e2, e3, e4, e5] at *
  all_goals try simp (disch := omega) only [td8, Int.toNat_natCast]
  all_goals first
    | omega
    | exact hn2 (by omega)
    | rfl
    | (rw [IntWalk.i64_in _ (by omega)]; omega)
    | (rw [e6]; omega)
    | (rw [uL, mix_zero, tab_const]; done)
    | exact mix_succ ..
    | (congr 1; omega)
theorem unbits_ok : CtOk Try.prog 35 UnbitsS.ct := Sp.ok Γ0_ok hm Try.func35 UnbitsS UnbitsS_found LUnbits (fun x h => unbits_vc x.1 x.2 h)
end Go.Wk.P04
