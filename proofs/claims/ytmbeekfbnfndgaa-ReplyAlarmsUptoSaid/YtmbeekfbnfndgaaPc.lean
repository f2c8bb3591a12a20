/-
  Words put behind bytes; under the rows' own bounds.
-/
import Derived.Test.YtmbeekfbnfndgaaPb
namespace Go.Wk.P04
open Go Go.Vs Go.Proofs
set_option linter.unusedSimpArgs false
set_option linter.unusedVariables false
set_option maxRecDepth 10000

/-! words: words are put behind bytes -/
abbrev Own (b : OB) : Prop := OBOk 2000000 b
abbrev oO (b : OB) : AO := obO 5 .u8 b
abbrev ownV (nl : Bool) (r n : Nat) (c : Nat) : AV := .sl nl r 1 0 n (n + c)
abbrev ownO (n : Nat) (cr : Nat × Nat) (l : List Int) : AO := .arr true 5 (n + cr.1 + cr.2) n [.int .u8 l]

def WordsS : Sp where
  X := OB × SS
  Y := fun _ => Nat × Nat
  y0 := fun _ => (0, 0)
  pat := fun x => ([obV x.1 0, ssV x.2 1], [some (oO x.1), some (nO x.2)])
  fnd := fun args H => match args with
    | [v, w] => (match fndO 5 .u8 v H, fndS 3 .i64 w H with | some (s, b), some (t, c) => some ((s, t), [b, c]) | _, _ => none)
    | _ => none
  pre := fun x => Own x.1 ∧ SSOk 2000000 9000000000000000000 x.2
  res := fun x y => ⟨ownV (x.1.nl && Nat.beq x.2.n 0) 2 (x.1.n + 2 * x.2.n) y.1, [(0, none)], [ownO (x.1.n + 2 * x.2.n) y (x.1.l ++ wN x.2.get x.2.n)]⟩
  pick := fun x v H => (pkO (x.1.n + 2 * x.2.n) v H).map fun (y, b) => (y, [0, 1, b])
theorem WordsS_found : WordsS.spec.Found := by
  intro args H x σ h
  simp only [Sp.spec, WordsS] at h
  split at h
  rotate_left
  · cases h
  split at h
  rotate_left
  · cases h
  rename_i s b t c hs ht
  cases h
  obtain ⟨rfl, h2⟩ := fndO_found hs
  obtain ⟨rfl, h3⟩ := fndS_found ht
  exact ⟨rfl, fun i ao hi => by
    match i, hi with
    | 0, hi => obtain rfl := Option.some.inj (Option.some.inj hi); exact h2
    | 1, hi => obtain rfl := Option.some.inj (Option.some.inj hi); exact h3⟩
noncomputable def LWords (x : OB × SS) : Loops := fun body s => match loopId body with
  | _ => some (mkLI Try.f51 body s (X := Nat × Nat × Nat) (0, x.1.cap - x.1.n, x.1.room - x.1.cap) [0, 1, 0] (fun (k, c, r) => k ≤ x.2.n ∧ (k = 0 → x.1.nl = true → c = 0)) (fun (k, c, r) => x.2.n - k)
      (fun (k, c, r) => [(9, iv k), (0, ownV (x.1.nl && Nat.beq k 0) 2 (x.1.n + 2 * k) c), (4, .val (.slice none 0 0))])
      (fun (k, c, r) => [none, some (nO x.2), some (ownO (x.1.n + 2 * k) (c, r) (x.1.l ++ wN x.2.get k))])
      (fun (k, c, r) s => match Go.Vs.look s.env 0 with
        | some v => (pkO (x.1.n + 2 * (k + 1)) v s.heap).map fun ((c, r), b) => ((k + 1, c, r), [0, 1, b])
        | none => none))
set_option maxRecDepth 100000 in
theorem words_nf (s : OB) (t : SS) : (fnV Try.prog Γnone (LWords (s, t)) Try.f51 [obV s 0, ssV t 1] [some (oO s), some (nO t)] (Sp.good WordsS (s, t))) = (let q := AO.arr true 5 (OB.n s + 0 + (OB.cap s - OB.n s) + (OB.room s - OB.cap s)) (OB.n s + 0) [Col.int IntKind.u8 (OB.l s ++ wN (SS.get t) 0)]; let q_1 := AO.arr (SS.rw t) 3 (SS.room t) (SS.m t) [Col.int IntKind.i64 (SS.l t)]; let q_2 := AV.sl (SS.nl t) 1 1 (SS.off t) (SS.n t) (SS.cap t) = AV.sl (SS.nl t) 1 1 (SS.off t) (SS.n t) (SS.cap t); let q_3 := AV.val (Value.slice none 0 0); let q_4 := AV.val (Value.int IntKind.i64 (↑(SS.n t) : Int)); let q_5 := OB.n s + 0; let q_6 := OB.cap s - OB.n s; let q_7 := AV.val (Value.int IntKind.i64 0); ((0 ≤ SS.n t ∧ (0 = 0 → OB.nl s = true → q_6 = 0)) ∧ (q_7 = q_7 ∧ AV.sl (OB.nl s) 0 1 0 (OB.n s) (OB.cap s) = AV.sl (OB.nl s && true) 0 1 0 q_5 (q_5 + q_6) ∧ q_3 = q_3 ∧ q_4 = q_4 ∧ q_2 ∧ q_2 ∧ True) ∧ Bif (AO.deadB q_1) True (q_1 = q_1) ∧ Bif (AO.deadB q) True (AO.arr true 5 (OB.room s) (OB.m s) [Col.int IntKind.u8 (OB.l s)] = q) ∧ True) ∧ ∀ (x : Nat × Nat × Nat), let q := SS.off t + Int.toNat (↑x.1 : Int); let q_8 := OB.n s + 2 * x.1; let q_9 := OB.l s ++ wN (SS.get t) x.1; let q_10 := x.1 + 1; x.1 ≤ SS.n t ∧ (x.1 = 0 → OB.nl s = true → x.2.1 = 0) → let q_11 := q_8 + 2; let q_12 := q_8; let q_13 := OB.n s + 2 * q_10; let q_14 := OB.n s + 2 * SS.n t; let q_15 := q_12 + Prod.fst x.2 + Prod.snd x.2; let q_16 := q_12 + x.2.1; let q_17 := q_1; let q_18 := decide (q < SS.m t); let q_19 := 0 + q_12; let q_20 := [Col.int IntKind.u8 q_9]; let q_21 := OB.nl s && Nat.beq x.1 0; let q_22 := OB.l s ++ wN (SS.get t) (SS.n t); let q_23 := AV.sl (SS.nl t) 1 1 (SS.off t) (SS.n t) (SS.cap t); let q_24 := q_14 + (q_16 - q_14); let q_25 := q_10; let q_26 := q_11 * 1; let q_27 := 0 + q_16; let q_28 := q_15 - q_16; Bif (decide ((↑x.1 : Int) < (↑(SS.n t) : Int))) (Bif (!SS.nl t && (inR (↑x.1 : Int) (SS.n t) && q_18)) (Bif q_18 (Bif (decide (q_19 ≤ q_12) && (longEnough q_19 q_20 && (!q_21 || decide (q_12 = 0))) && (decide (q_26 ≤ 140737488355328) && decide (q_11 ≤ 9223372036854775807)) && (decide (q_27 ≤ q_15) && (!q_21 || decide (q_16 = 0)))) (∀ (x_2 : Nat), let q_29 := AO.arr true 5 (q_13 + (q_11 + x_2 - q_13) + (q_11 + x_2 - (q_11 + x_2))) q_13 [Col.int IntKind.u8 (OB.l s ++ wN (SS.get t) q_25)]; let q_30 := q_11 + x_2; let q_31 := q_30 - q_13; let q_32 := q_25; let q_33 := q_23 = q_23; let q_34 := q_17; let q_35 := q_11; let q := List.getD (SS.l t) q 0; let q_36 := OB.n s + 2 * q_32; let q_37 := q_3; let q_38 := q_4; (q_32 ≤ SS.n t ∧ (q_32 = 0 → OB.nl s = true → q_31 = 0)) ∧ ((LWords.match_1 (fun (x : Nat × Nat × Nat) => Nat) (q_32, q_31, q_30 - q_30) fun (k c r : Nat) => SS.n t - k) < LWords.match_1 (fun (x : Nat × Nat × Nat) => Nat) x fun (k c r : Nat) => SS.n t - k) ∧ (AV.val (Value.int IntKind.i64 (IntKind.wrap IntKind.i64 ((↑x.1 : Int) + 1))) = AV.val (Value.int IntKind.i64 (↑q_32 : Int)) ∧ AV.sl (q_21 && false) 4 1 0 q_35 q_30 = AV.sl (OB.nl s && false) 4 1 0 q_36 (q_36 + q_31) ∧ q_37 = q_37 ∧ q_38 = q_38 ∧ q_33 ∧ q_33 ∧ True) ∧ Bif (AO.deadB q_34) True (q_34 = q_34) ∧ Bif (AO.deadB q_29) True (AO.arr true 5 q_30 q_35 [Col.int IntKind.u8 (List.take q_12 (List.drop 0 q_9) ++ List.take 2 (List.drop 0 (List.set (List.set (List.replicate 2 0) 0 (IntKind.wrap IntKind.u8 (Int.fdiv q (2 ^ min (Int.toNat 8) (IntKind.bits IntKind.i64))))) 1 (IntKind.wrap IntKind.u8 q))))] = q_29) ∧ True) False) False) False) ((AV.sl q_21 2 1 0 q_12 q_16 = AV.sl (OB.nl s && Nat.beq (SS.n t) 0) 2 1 0 q_14 q_24 ∧ True) ∧ Bif (AO.deadB (nO t)) True (q_17 = q_17) ∧ Bif (AO.deadB (ownO q_14 (q_16 - q_14, q_28) q_22)) True (AO.arr true 5 q_15 q_12 q_20 = AO.arr true 5 (q_24 + q_28) q_14 [Col.int IntKind.u8 q_22]) ∧ True)) := by kernel_rfl
set_option maxHeartbeats 1000000 in
theorem words_vc (s : OB) (t : SS) (hs : Own s) (ht : SSOk 2000000 9000000000000000000 t) : FnV Try.prog Γnone (LWords (s, t)) Try.f51 [obV s 0, ssV t 1] [some (oO s), some (nO t)] (WordsS.good (s, t)) := by
  have hn2 := ht.nl0
  obtain ⟨h1, h2, h3, h4, h5, h6⟩ := hs
  obtain ⟨k1, k2, k3, k4, k5, k6, k7⟩ := ht
  refine FnV.of (words_nf _ _) ?_
  all_goals try simp only [Bif_need, Bif_True]
  all_goals try simp only [Bif_iff, eq_self, and_true, true_and, AV.val.injEq, AV.agg.injEq, AV.tup.injEq, AV.sl.injEq, AV.ptr.injEq, AV.mp.injEq, Value.int.injEq, Value.bool.injEq, Value.string.injEq, AO.cells.injEq, AO.arr.injEq, AO.mapc.injEq, List.cons.injEq, Col.bool.injEq, Col.int.injEq, Col.str.injEq, MCol.int.injEq, MCol.bool.injEq, MCol.str.injEq, decide_eq_true_eq, decide_eq_false_iff_not, Nat.zero_add, Nat.add_zero, implies_true, Bool.and_eq_true, inR_iff, List.drop_zero, List.take_nil, List.drop_nil, List.nil_append, Int.toNat_natCast, longEnough, colLen, Bool.not_true, Bool.not_false, Bool.true_or, Bool.or_eq_true, Bool.not_eq_true', Bool.not_eq_false', take_take_self, take_tab, one_col, tab_length, mix_length, List.length_take, Nat.min_eq_left, List.set_cons_zero, blt01, Bool.and_false, Bool.and_true, Bool.false_and, Bool.true_and, Bool.false_eq_true, Bool.true_eq_false, false_and, and_false, false_implies]
  all_goals repeat' (first | apply And.intro | intro (⟨k, c, r⟩ : Nat × Nat × Nat) | intro _)
  all_goals try dsimp only at *
  all_goals try omega
  all_goals try (have hk := ‹_ ≤ t.n ∧ (_ → _)›.1; have hc := ‹_ ≤ t.n ∧ (_ → _)›.2)
  all_goals first
    | omega
    | exact hn2 (by omega)
    | (simp only [List.length_append, wN_length]; omega)
    | (simp only [wN, List.append_nil]; done)
    | exact nlb (fun h1 h2 => by have := h6 h1; have := hc h2 h1; omega)
    | exact nlb (fun h1 h2 => by have := h6 h1; omega)
    | exact words_step (by omega) (hi_u8 _ _ (by decide)) (wrap_u8 _)
    | (have e := Nat.le_antisymm hk (by omega); subst e; rfl)
    | (rw [IntWalk.i64_in _ (by omega)]; omega)
    | grind
theorem words_ok : CtOk Try.prog 51 WordsS.ct := Sp.ok CtsOk.none hm Try.func51 WordsS WordsS_found LWords (fun x h => words_vc x.1 x.2 h.1 h.2)
def Words16S : Sp where
  X := OB × SS
  Y := fun _ => Nat × Nat
  y0 := fun _ => (0, 0)
  pat := fun x => ([obV x.1 0, ssV x.2 1], [some (oO x.1), some (wO x.2)])
  fnd := fun args H => match args with
    | [v, w] => (match fndO 5 .u8 v H, fndS 44 .u16 w H with | some (s, b), some (t, c) => some ((s, t), [b, c]) | _, _ => none)
    | _ => none
  pre := fun x => Own x.1 ∧ WOk x.2
  res := fun x y => ⟨ownV (x.1.nl && Nat.beq x.2.n 0) 2 (x.1.n + 2 * x.2.n) y.1, [(0, none)], [ownO (x.1.n + 2 * x.2.n) y (x.1.l ++ wN x.2.get x.2.n)]⟩
  pick := fun x v H => (pkO (x.1.n + 2 * x.2.n) v H).map fun (y, b) => (y, [0, 1, b])
theorem Words16S_found : Words16S.spec.Found := by
  intro args H x σ h
  simp only [Sp.spec, Words16S] at h
  split at h
  rotate_left
  · cases h
  split at h
  rotate_left
  · cases h
  rename_i s b t c hs ht
  cases h
  obtain ⟨rfl, h2⟩ := fndO_found hs
  obtain ⟨rfl, h3⟩ := fndS_found ht
  exact ⟨rfl, fun i ao hi => by
    match i, hi with
    | 0, hi => obtain rfl := Option.some.inj (Option.some.inj hi); exact h2
    | 1, hi => obtain rfl := Option.some.inj (Option.some.inj hi); exact h3⟩
noncomputable def LWords16 (x : OB × SS) : Loops := fun body s => match loopId body with
  | _ => some (mkLI Try.f52 body s (X := Nat × Nat × Nat) (0, x.1.cap - x.1.n, x.1.room - x.1.cap) [0, 1, 0] (fun (k, c, r) => k ≤ x.2.n ∧ (k = 0 → x.1.nl = true → c = 0)) (fun (k, c, r) => x.2.n - k)
      (fun (k, c, r) => [(9, iv k), (0, ownV (x.1.nl && Nat.beq k 0) 2 (x.1.n + 2 * k) c), (4, .val (.slice none 0 0))])
      (fun (k, c, r) => [none, some (wO x.2), some (ownO (x.1.n + 2 * k) (c, r) (x.1.l ++ wN x.2.get k))])
      (fun (k, c, r) s => match Go.Vs.look s.env 0 with
        | some v => (pkO (x.1.n + 2 * (k + 1)) v s.heap).map fun ((c, r), b) => ((k + 1, c, r), [0, 1, b])
        | none => none))
set_option maxRecDepth 100000 in
theorem words16_nf (s : OB) (t : SS) : (fnV Try.prog Γnone (LWords16 (s, t)) Try.f52 [obV s 0, ssV t 1] [some (oO s), some (wO t)] (Sp.good Words16S (s, t))) = (let q := AO.arr true 5 (OB.n s + 0 + (OB.cap s - OB.n s) + (OB.room s - OB.cap s)) (OB.n s + 0) [Col.int IntKind.u8 (OB.l s ++ wN (SS.get t) 0)]; let q_1 := AO.arr (SS.rw t) 44 (SS.room t) (SS.m t) [Col.int IntKind.u16 (SS.l t)]; let q_2 := AV.sl (SS.nl t) 1 1 (SS.off t) (SS.n t) (SS.cap t) = AV.sl (SS.nl t) 1 1 (SS.off t) (SS.n t) (SS.cap t); let q_3 := AV.val (Value.slice none 0 0); let q_4 := AV.val (Value.int IntKind.i64 (↑(SS.n t) : Int)); let q_5 := OB.n s + 0; let q_6 := OB.cap s - OB.n s; let q_7 := AV.val (Value.int IntKind.i64 0); ((0 ≤ SS.n t ∧ (0 = 0 → OB.nl s = true → q_6 = 0)) ∧ (q_7 = q_7 ∧ AV.sl (OB.nl s) 0 1 0 (OB.n s) (OB.cap s) = AV.sl (OB.nl s && true) 0 1 0 q_5 (q_5 + q_6) ∧ q_3 = q_3 ∧ q_4 = q_4 ∧ q_2 ∧ q_2 ∧ True) ∧ Bif (AO.deadB q_1) True (q_1 = q_1) ∧ Bif (AO.deadB q) True (AO.arr true 5 (OB.room s) (OB.m s) [Col.int IntKind.u8 (OB.l s)] = q) ∧ True) ∧ ∀ (x : Nat × Nat × Nat), let q := SS.off t + Int.toNat (↑x.1 : Int); let q_8 := OB.n s + 2 * x.1; let q_9 := OB.l s ++ wN (SS.get t) x.1; let q_10 := x.1 + 1; x.1 ≤ SS.n t ∧ (x.1 = 0 → OB.nl s = true → x.2.1 = 0) → let q_11 := q_8 + 2; let q_12 := q_8; let q_13 := OB.n s + 2 * q_10; let q_14 := OB.n s + 2 * SS.n t; let q_15 := q_12 + Prod.fst x.2 + Prod.snd x.2; let q_16 := q_12 + x.2.1; let q_17 := q_1; let q_18 := decide (q < SS.m t); let q_19 := 0 + q_12; let q_20 := [Col.int IntKind.u8 q_9]; let q_21 := OB.nl s && Nat.beq x.1 0; let q_22 := AV.sl (SS.nl t) 1 1 (SS.off t) (SS.n t) (SS.cap t); let q_23 := OB.l s ++ wN (SS.get t) (SS.n t); let q_24 := q_14 + (q_16 - q_14); let q_25 := q_10; let q_26 := 0 + q_16; let q_27 := q_11 * 1; let q_28 := q_15 - q_16; Bif (decide ((↑x.1 : Int) < (↑(SS.n t) : Int))) (Bif (!SS.nl t && (inR (↑x.1 : Int) (SS.n t) && q_18)) (Bif q_18 (Bif (decide (q_19 ≤ q_12) && (longEnough q_19 q_20 && (!q_21 || decide (q_12 = 0))) && (decide (q_27 ≤ 140737488355328) && decide (q_11 ≤ 9223372036854775807)) && (decide (q_26 ≤ q_15) && (!q_21 || decide (q_16 = 0)))) (∀ (x_2 : Nat), let q_29 := AO.arr true 5 (q_13 + (q_11 + x_2 - q_13) + (q_11 + x_2 - (q_11 + x_2))) q_13 [Col.int IntKind.u8 (OB.l s ++ wN (SS.get t) q_25)]; let q_30 := q_11 + x_2; let q_31 := q_30 - q_13; let q_32 := q_25; let q_33 := q_22 = q_22; let q_34 := q_17; let q_35 := q_11; let q := List.getD (SS.l t) q 0; let q_36 := OB.n s + 2 * q_32; let q_37 := q_3; let q_38 := q_4; (q_32 ≤ SS.n t ∧ (q_32 = 0 → OB.nl s = true → q_31 = 0)) ∧ ((LWords.match_1 (fun (x : Nat × Nat × Nat) => Nat) (q_32, q_31, q_30 - q_30) fun (k c r : Nat) => SS.n t - k) < LWords.match_1 (fun (x : Nat × Nat × Nat) => Nat) x fun (k c r : Nat) => SS.n t - k) ∧ (AV.val (Value.int IntKind.i64 (IntKind.wrap IntKind.i64 ((↑x.1 : Int) + 1))) = AV.val (Value.int IntKind.i64 (↑q_32 : Int)) ∧ AV.sl (q_21 && false) 4 1 0 q_35 q_30 = AV.sl (OB.nl s && false) 4 1 0 q_36 (q_36 + q_31) ∧ q_37 = q_37 ∧ q_38 = q_38 ∧ q_33 ∧ q_33 ∧ True) ∧ Bif (AO.deadB q_34) True (q_34 = q_34) ∧ Bif (AO.deadB q_29) True (AO.arr true 5 q_30 q_35 [Col.int IntKind.u8 (List.take q_12 (List.drop 0 q_9) ++ List.take 2 (List.drop 0 (List.set (List.set (List.replicate 2 0) 0 (IntKind.wrap IntKind.u8 (Int.fdiv q (2 ^ min (Int.toNat 8) (IntKind.bits IntKind.u16))))) 1 (IntKind.wrap IntKind.u8 q))))] = q_29) ∧ True) False) False) False) ((AV.sl q_21 2 1 0 q_12 q_16 = AV.sl (OB.nl s && Nat.beq (SS.n t) 0) 2 1 0 q_14 q_24 ∧ True) ∧ Bif (AO.deadB (wO t)) True (q_17 = q_17) ∧ Bif (AO.deadB (ownO q_14 (q_16 - q_14, q_28) q_23)) True (AO.arr true 5 q_15 q_12 q_20 = AO.arr true 5 (q_24 + q_28) q_14 [Col.int IntKind.u8 q_23]) ∧ True)) := by kernel_rfl
set_option maxHeartbeats 1000000 in
theorem words16_vc (s : OB) (t : SS) (hs : Own s) (ht : WOk t) : FnV Try.prog Γnone (LWords16 (s, t)) Try.f52 [obV s 0, ssV t 1] [some (oO s), some (wO t)] (Words16S.good (s, t)) := by
  have hn2 := ht.nl0
  obtain ⟨h1, h2, h3, h4, h5, h6⟩ := hs
  obtain ⟨k1, k2, k3, k4, k5, k6, k7⟩ := ht
  refine FnV.of (words16_nf _ _) ?_
  all_goals try simp only [Bif_need, Bif_True]
  all_goals try simp only [Bif_iff, eq_self, and_true, true_and, AV.val.injEq, AV.agg.injEq, AV.tup.injEq, AV.sl.injEq, AV.ptr.injEq, AV.mp.injEq, Value.int.injEq, Value.bool.injEq, Value.string.injEq, AO.cells.injEq, AO.arr.injEq, AO.mapc.injEq, List.cons.injEq, Col.bool.injEq, Col.int.injEq, Col.str.injEq, MCol.int.injEq, MCol.bool.injEq, MCol.str.injEq, decide_eq_true_eq, decide_eq_false_iff_not, Nat.zero_add, Nat.add_zero, implies_true, Bool.and_eq_true, inR_iff, List.drop_zero, List.take_nil, List.drop_nil, List.nil_append, Int.toNat_natCast, longEnough, colLen, Bool.not_true, Bool.not_false, Bool.true_or, Bool.or_eq_true, Bool.not_eq_true', Bool.not_eq_false', take_take_self, take_tab, one_col, tab_length, mix_length, List.length_take, Nat.min_eq_left, List.set_cons_zero, blt01, Bool.and_false, Bool.and_true, Bool.false_and, Bool.true_and, Bool.false_eq_true, Bool.true_eq_false, false_and, and_false, false_implies]
  all_goals repeat' (first | apply And.intro | intro (⟨k, c, r⟩ : Nat × Nat × Nat) | intro _)
  all_goals try dsimp only at *
  all_goals try omega
  all_goals try (have hk := ‹_ ≤ t.n ∧ (_ → _)›.1; have hc := ‹_ ≤ t.n ∧ (_ → _)›.2)
  all_goals first
    | omega
    | exact hn2 (by omega)
    | (simp only [List.length_append, wN_length]; omega)
    | (simp only [wN, List.append_nil]; done)
    | exact nlb (fun h1 h2 => by have := h6 h1; have := hc h2 h1; omega)
    | exact nlb (fun h1 h2 => by have := h6 h1; omega)
    | exact words_step (by omega) (hi_u8 _ _ (by decide)) (wrap_u8 _)
    | (have e := Nat.le_antisymm hk (by omega); subst e; rfl)
    | (rw [IntWalk.i64_in _ (by omega)]; omega)
    | grind
theorem words16_ok : CtOk Try.prog 52 Words16S.ct := Sp.ok CtsOk.none hm Try.func52 Words16S Words16S_found LWords16 (fun x h => words16_vc x.1 x.2 h.1 h.2)
def WordsNS : Sp where
  X := SS
  Y := fun _ => Nat × Nat
  y0 := fun _ => (0, 0)
  pat := fun x => ([.val (.slice none 0 0), ssV x 0], [some (wO x)])
  fnd := fun args H => match args with
    | [.val (.slice none 0 0), w] => (match fndS 44 .u16 w H with | some (t, c) => some (t, [c]) | _ => none)
    | _ => none
  pre := WOk
  res := fun x y => ⟨ownV (Nat.beq x.n 0) 1 (2 * x.n) y.1, [], [ownO (2 * x.n) y (wN x.get x.n)]⟩
  pick := fun x v H => (pkO (2 * x.n) v H).map fun (y, b) => (y, [0, b])
theorem WordsNS_found : WordsNS.spec.Found := by
  intro args H x σ h
  simp only [Sp.spec, WordsNS] at h
  split at h
  rotate_left
  · cases h
  split at h
  rotate_left
  · cases h
  rename_i t c ht
  cases h
  obtain ⟨rfl, h3⟩ := fndS_found ht
  exact ⟨rfl, fun i ao hi => by
    match i, hi with
    | 0, hi => obtain rfl := Option.some.inj (Option.some.inj hi); exact h3⟩
noncomputable def LWordsN (x : SS) : Loops := fun body s => match loopId body with
  | _ => some (mkLI Try.f52 body s (X := Nat × Nat × Nat) (0, 0, 0) [0, 1] (fun (k, c, r) => k ≤ x.n ∧ (k = 0 → True → c = 0)) (fun (k, c, r) => x.n - k)
      (fun (k, c, r) => [(9, iv k), (0, ownV (Nat.beq k 0) 1 (2 * k) c), (4, .val (.slice none 0 0))])
      (fun (k, c, r) => [some (wO x), some (ownO (2 * k) (c, r) (wN x.get k))])
      (fun (k, c, r) s => match Go.Vs.look s.env 0 with
        | some v => (pkO (2 * (k + 1)) v s.heap).map fun ((c, r), b) => ((k + 1, c, r), [0, b])
        | none => none))
set_option maxRecDepth 100000 in
theorem wordsn_nf (t : SS) : (fnV Try.prog Γnone (LWordsN t) Try.f52 [AV.val (Value.slice none 0 0), ssV t 0] [some (wO t)] (Sp.good WordsNS t)) = (let q := AO.arr (SS.rw t) 44 (SS.room t) (SS.m t) [Col.int IntKind.u16 (SS.l t)]; let q_1 := AV.sl (SS.nl t) 0 1 (SS.off t) (SS.n t) (SS.cap t) = AV.sl (SS.nl t) 0 1 (SS.off t) (SS.n t) (SS.cap t); let q_2 := 0 = 0; let q_3 := AV.val (Value.slice none 0 0); let q_4 := AV.val (Value.int IntKind.i64 (↑(SS.n t) : Int)); let q_5 := AV.val (Value.int IntKind.i64 0); ((0 ≤ SS.n t ∧ (q_2 → True → q_2)) ∧ (q_5 = q_5 ∧ (true = true ∧ q_2 ∧ q_2) ∧ q_3 = q_3 ∧ q_4 = q_4 ∧ q_1 ∧ q_1 ∧ True) ∧ Bif (AO.deadB q) True (q = q) ∧ True ∧ True) ∧ ∀ (x : Nat × Nat × Nat), let q_6 := SS.off t + Int.toNat (↑x.1 : Int); let q_7 := x.1 + 1; let q_8 := 2 * x.1; x.1 ≤ SS.n t ∧ (x.1 = 0 → True → x.2.1 = 0) → let q_9 := q_8 + 2; let q_10 := q_8; let q_11 := 2 * q_7; let q_12 := q_10 + Prod.fst x.2 + Prod.snd x.2; let q_13 := 2 * SS.n t; let q_14 := q_10 + x.2.1; let q := q; let q_15 := decide (q_6 < SS.m t); let q_16 := 0 + q_10; let q_17 := AV.sl (SS.nl t) 0 1 (SS.off t) (SS.n t) (SS.cap t); let q_18 := q_13 + (q_14 - q_13); let q_19 := Nat.beq x.1 0; let q_20 := q_7; let q_21 := 0 + q_14; let q_22 := q_9 * 1; let q_23 := [Col.int IntKind.u8 (wN (SS.get t) x.1)]; let q_24 := q_12 - q_14; Bif (decide ((↑x.1 : Int) < (↑(SS.n t) : Int))) (Bif (!SS.nl t && (inR (↑x.1 : Int) (SS.n t) && q_15)) (Bif q_15 (Bif (decide (q_16 ≤ q_10) && (longEnough q_16 q_23 && (!q_19 || decide (q_10 = 0))) && (decide (q_22 ≤ 140737488355328) && decide (q_9 ≤ 9223372036854775807)) && (decide (q_21 ≤ q_12) && (!q_19 || decide (q_14 = 0)))) (∀ (x_2 : Nat), let q_25 := AO.arr true 5 (q_11 + (q_9 + x_2 - q_11) + (q_9 + x_2 - (q_9 + x_2))) q_11 [Col.int IntKind.u8 (wN (SS.get t) q_20)]; let q_26 := q_9 + x_2; let q_27 := q_26 - q_11; let q_28 := q_20; let q_29 := q_17 = q_17; let q := q; let q_30 := q_9; let q_31 := List.getD (SS.l t) q_6 0; let q_32 := q_3; let q_33 := 2 * q_28; let q_34 := q_4; (q_28 ≤ SS.n t ∧ (q_28 = 0 → True → q_27 = 0)) ∧ ((LWords.match_1 (fun (x : Nat × Nat × Nat) => Nat) (q_28, q_27, q_26 - q_26) fun (k c r : Nat) => SS.n t - k) < LWords.match_1 (fun (x : Nat × Nat × Nat) => Nat) x fun (k c r : Nat) => SS.n t - k) ∧ (AV.val (Value.int IntKind.i64 (IntKind.wrap IntKind.i64 ((↑x.1 : Int) + 1))) = AV.val (Value.int IntKind.i64 (↑q_28 : Int)) ∧ AV.sl (q_19 && false) 3 1 0 q_30 q_26 = AV.sl false 3 1 0 q_33 (q_33 + q_27) ∧ q_32 = q_32 ∧ q_34 = q_34 ∧ q_29 ∧ q_29 ∧ True) ∧ Bif (AO.deadB q) True (q = q) ∧ Bif (AO.deadB q_25) True (AO.arr true 5 q_26 q_30 [Col.int IntKind.u8 (List.take q_10 (List.drop 0 (wN (SS.get t) x.1)) ++ List.take 2 (List.drop 0 (List.set (List.set (List.replicate 2 0) 0 (IntKind.wrap IntKind.u8 (Int.fdiv q_31 (2 ^ min (Int.toNat 8) (IntKind.bits IntKind.u16))))) 1 (IntKind.wrap IntKind.u8 q_31))))] = q_25) ∧ True) False) False) False) ((AV.sl q_19 1 1 0 q_10 q_14 = AV.sl (Nat.beq (SS.n t) 0) 1 1 0 q_13 q_18 ∧ True) ∧ Bif (AO.deadB (wO t)) True (q = q) ∧ Bif (AO.deadB (ownO q_13 (q_14 - q_13, q_24) (wN (SS.get t) (SS.n t)))) True (AO.arr true 5 q_12 q_10 q_23 = AO.arr true 5 (q_18 + q_24) q_13 [Col.int IntKind.u8 (wN (SS.get t) (SS.n t))]) ∧ True)) := by kernel_rfl
set_option maxHeartbeats 1000000 in
theorem wordsN_vc (t : SS) (ht : WOk t) : FnV Try.prog Γnone (LWordsN t) Try.f52 [.val (.slice none 0 0), ssV t 0] [some (wO t)] (WordsNS.good t) := by
  have hn2 := ht.nl0
  obtain ⟨k1, k2, k3, k4, k5, k6, k7⟩ := ht
  refine FnV.of (wordsn_nf _) ?_
  all_goals try simp only [Bif_need, Bif_True]
  all_goals try simp only [Bif_iff, eq_self, and_true, true_and, AV.val.injEq, AV.agg.injEq, AV.tup.injEq, AV.sl.injEq, AV.ptr.injEq, AV.mp.injEq, Value.int.injEq, Value.bool.injEq, Value.string.injEq, AO.cells.injEq, AO.arr.injEq, AO.mapc.injEq, List.cons.injEq, Col.bool.injEq, Col.int.injEq, Col.str.injEq, MCol.int.injEq, MCol.bool.injEq, MCol.str.injEq, decide_eq_true_eq, decide_eq_false_iff_not, Nat.zero_add, Nat.add_zero, implies_true, Bool.and_eq_true, inR_iff, List.drop_zero, List.take_nil, List.drop_nil, List.nil_append, Int.toNat_natCast, longEnough, colLen, Bool.not_true, Bool.not_false, Bool.true_or, Bool.or_eq_true, Bool.not_eq_true', Bool.not_eq_false', take_take_self, take_tab, one_col, tab_length, mix_length, List.length_take, Nat.min_eq_left, List.set_cons_zero, blt01, Bool.and_false, Bool.and_true, Bool.false_and, Bool.true_and, Bool.false_eq_true, Bool.true_eq_false, false_and, and_false, false_implies]
  all_goals repeat' (first | apply And.intro | intro (⟨k, c, r⟩ : Nat × Nat × Nat) | intro _)
  all_goals try dsimp only at *
  all_goals try omega
  all_goals try (have hk := ‹_ ≤ t.n ∧ (_ → _)›.1; have hc := ‹_ ≤ t.n ∧ (_ → _)›.2)
  all_goals first
    | omega
    | exact hn2 (by omega)
    | (simp only [List.length_append, wN_length]; omega)
    | (simp only [wN, List.append_nil]; done)
    | exact nlb (b := true) (fun _ h2 => by have := hc h2 trivial; omega)
    | exact words_step0 (hi_u8 _ _ (by decide)) (wrap_u8 _)
    | (have e := Nat.le_antisymm hk (by omega); subst e; rfl)
    | (rw [IntWalk.i64_in _ (by omega)]; omega)
    | grind
theorem wordsN_ok : CtOk Try.prog 52 WordsNS.ct := Sp.ok CtsOk.none hm Try.func52 WordsNS WordsNS_found LWordsN wordsN_vc
theorem words16_or : CtOk Try.prog 52 (Words16S.ct.or WordsNS.ct) := words16_ok.or wordsN_ok
noncomputable def Γ2a : Cts := (Γ1.add 51 WordsS.ct).add 52 (Words16S.ct.or WordsNS.ct)
theorem Γ2a_ok : CtsOk Try.prog Γ2a := (Γ1_ok.add words_ok Try.func51 (by kernel_rfl) (by kernel_rfl)).add words16_or Try.func52 (by kernel_rfl) (by kernel_rfl)
noncomputable def Γ2 : Cts := Γ2a
theorem Γ2_ok : CtsOk Try.prog Γ2 := Γ2a_ok
end Go.Wk.P04
