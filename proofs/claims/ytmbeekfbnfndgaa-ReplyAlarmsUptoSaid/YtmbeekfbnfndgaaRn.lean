/-
  The document's words and bits; under the rows' own bounds.
-/
import Derived.Test.YtmbeekfbnfndgaaRm
namespace Go.Wk.P05
open Go Go.Vs Go.Proofs Go.Wk.P04
set_option linter.unusedSimpArgs false
set_option linter.unusedVariables false
set_option maxRecDepth 10000

/-! the document's Put -/
noncomputable def Γs : Cts := Γr.add 41 (autoCt Try.prog Γnone Try.f41)
theorem Γs_ok : CtsOk Try.prog Γs := Γr_ok.add (autoCt_ok CtsOk.none hm Try.func41) Try.func41 (by kernel_rfl) (by kernel_rfl)
noncomputable def LFW (x : SS) : Loops := fun body s => match loopId body with
  | _ => some (mkLI Try.f42 body s (X := Nat × Nat × Nat) (0, 0, 0) [0, 1] (fun (k, c, r) => k ≤ x.n ∧ (k = 0 → True → c = 0)) (fun (k, c, r) => x.n - k)
      (fun (k, c, r) => [(4, iv k), (3, ownV (Nat.beq k 0) 1 (2 * k) c)])
      (fun (k, c, r) => [some (wO x), some (ownO (2 * k) (c, r) (wN x.get k))])
      (fun (k, c, r) s => match Go.Vs.look s.env 3 with
        | some v => (pkO (2 * (k + 1)) v s.heap).map fun ((c, r), b) => ((k + 1, c, r), [0, b])
        | none => none))
set_option maxRecDepth 100000 in
theorem rfwords_nf (t : SS) : (fnV Try.prog Γs (LFW t) Try.f42 [ssV t 0] [some (wO t)] (Sp.good RwordsS t)) = (let q := AO.arr (SS.rw t) 44 (SS.room t) (SS.m t) [Col.int IntKind.u16 (SS.l t)]; let q_1 := AV.sl (SS.nl t) 0 1 (SS.off t) (SS.n t) (SS.cap t); let q_2 := 0 = 0; let q_3 := AV.val (Value.slice none 0 0); let q_4 := AV.val (Value.int IntKind.i64 0); ((0 ≤ SS.n t ∧ (q_2 → True → q_2)) ∧ (q_4 = q_4 ∧ (true = true ∧ q_2 ∧ q_2) ∧ q_3 = q_3 ∧ q_1 = q_1 ∧ True) ∧ Bif (AO.deadB q) True (q = q) ∧ True ∧ True) ∧ ∀ (x : Nat × Nat × Nat), let q_5 := SS.off t + Int.toNat (↑x.1 : Int); let q_6 := 2 * x.1; let q_7 := x.1 + 1; x.1 ≤ SS.n t ∧ (x.1 = 0 → True → x.2.1 = 0) → let q_8 := q_6 + 2; let q_9 := q_6; let q_10 := 2 * q_7; let q_11 := q_9 + Prod.fst x.2 + Prod.snd x.2; let q_12 := 2 * SS.n t; let q_13 := q_9 + x.2.1; let q := q; let q_14 := decide (q_5 < SS.m t); let q_15 := 0 + q_9; let q_16 := q_12 + (q_13 - q_12); let q_17 := Nat.beq x.1 0; let q_18 := q_7; let q_19 := q_8 * 1; let q_20 := 0 + q_13; let q_21 := [Col.int IntKind.u8 (wN (SS.get t) x.1)]; let q_22 := q_11 - q_13; Bif (decide ((↑x.1 : Int) < (↑(SS.n t) : Int))) (Bif (!SS.nl t && (inR (↑x.1 : Int) (SS.n t) && q_14)) (Bif q_14 (Bif (decide (q_15 ≤ q_9) && (longEnough q_15 q_21 && (!q_17 || decide (q_9 = 0))) && (decide (q_19 ≤ 140737488355328) && decide (q_8 ≤ 9223372036854775807)) && (decide (q_20 ≤ q_11) && (!q_17 || decide (q_13 = 0)))) (∀ (x_2 : Nat), let q_23 := AO.arr true 5 (q_10 + (q_8 + x_2 - q_10) + (q_8 + x_2 - (q_8 + x_2))) q_10 [Col.int IntKind.u8 (wN (SS.get t) q_18)]; let q_24 := q_8 + x_2; let q_25 := q_24 - q_10; let q_26 := q_18; let q := q; let q_27 := IntKind.wrap IntKind.i64 (List.getD (SS.l t) q_5 0); let q_28 := q_8; let q_29 := q_1; let q_30 := q_3; let q_31 := 2 * q_26; (q_26 ≤ SS.n t ∧ (q_26 = 0 → True → q_25 = 0)) ∧ ((LFW.match_1 (fun (x : Nat × Nat × Nat) => Nat) (q_26, q_25, q_24 - q_24) fun (k c r : Nat) => SS.n t - k) < LFW.match_1 (fun (x : Nat × Nat × Nat) => Nat) x fun (k c r : Nat) => SS.n t - k) ∧ (AV.val (Value.int IntKind.i64 (IntKind.wrap IntKind.i64 ((↑x.1 : Int) + 1))) = AV.val (Value.int IntKind.i64 (↑q_26 : Int)) ∧ AV.sl (q_17 && false) 3 1 0 q_28 q_24 = AV.sl false 3 1 0 q_31 (q_31 + q_25) ∧ q_30 = q_30 ∧ q_29 = q_29 ∧ True) ∧ Bif (AO.deadB q) True (q = q) ∧ Bif (AO.deadB q_23) True (AO.arr true 5 q_24 q_28 [Col.int IntKind.u8 (List.take q_9 (List.drop 0 (wN (SS.get t) x.1)) ++ List.take 2 (List.drop 0 (List.set (List.set (List.replicate 2 0) 0 (IntKind.wrap IntKind.u8 (Int.fdiv q_27 (2 ^ min (Int.toNat 8) (IntKind.bits IntKind.i64))))) 1 (IntKind.wrap IntKind.u8 q_27))))] = q_23) ∧ True) False) False) False) ((AV.sl q_17 1 1 0 q_9 q_13 = AV.sl (Nat.beq (SS.n t) 0) 1 1 0 q_12 q_16 ∧ True) ∧ Bif (AO.deadB (wO t)) True (q = q) ∧ Bif (AO.deadB (ownO q_12 (q_13 - q_12, q_22) (wN (SS.get t) (SS.n t)))) True (AO.arr true 5 q_11 q_9 q_21 = AO.arr true 5 (q_16 + q_22) q_12 [Col.int IntKind.u8 (wN (SS.get t) (SS.n t))]) ∧ True)) := by kernel_rfl
set_option maxHeartbeats 1000000 in
theorem rfwords_vc (t : SS) (ht : WOk t) : FnV Try.prog Γs (LFW t) Try.f42 [ssV t 0] [some (wO t)] (RwordsS.good t) := by
  have hn2 := ht.nl0
  obtain ⟨k1, k2, k3, k4, k5, k6, k7⟩ := ht
  have hw : ∀ j, j < t.n → IntKind.i64.wrap (t.l.getD (t.off + j) 0) = t.get j := fun j hj => by
    have := k7 j hj
    rw [IntWalk.i64_in _ (by omega)]; rfl
  refine FnV.of (rfwords_nf _) ?_
  all_goals try simp only [Bif_need, Bif_True]
  all_goals try simp only [Bif_iff, eq_self, and_true, true_and, AV.val.injEq, AV.agg.injEq, AV.tup.injEq, AV.sl.injEq, AV.ptr.injEq, AV.mp.injEq, Value.int.injEq, Value.bool.injEq, Value.string.injEq, AO.cells.injEq, AO.arr.injEq, AO.mapc.injEq, List.cons.injEq, Col.bool.injEq, Col.int.injEq, Col.str.injEq, MCol.int.injEq, MCol.bool.injEq, MCol.str.injEq, decide_eq_true_eq, decide_eq_false_iff_not, Nat.zero_add, Nat.add_zero, implies_true, Bool.and_eq_true, inR_iff, List.drop_zero, List.take_nil, List.drop_nil, List.nil_append, Int.toNat_natCast, longEnough, colLen, Bool.not_true, Bool.not_false, Bool.true_or, Bool.or_eq_true, Bool.not_eq_true', Bool.not_eq_false', take_take_self, take_tab, one_col, tab_length, mix_length, List.length_take, Nat.min_eq_left, List.set_cons_zero, blt01, Bool.and_false, Bool.and_true, Bool.false_and, Bool.true_and, Bool.false_eq_true, Bool.true_eq_false, false_and, and_false, false_implies]
  all_goals repeat' (first | apply And.intro | intro (⟨k, c, r⟩ : Nat × Nat × Nat) | intro _)
  all_goals try dsimp only at *
  all_goals try omega
  all_goals try (have hk := ‹_ ≤ t.n ∧ (_ → _)›.1; have hc := ‹_ ≤ t.n ∧ (_ → _)›.2)
  all_goals try rw [hw _ (Int.ofNat_lt.1 ‹_›)]
  all_goals first
    | omega
    | exact hn2 (by omega)
    | (simp only [List.length_append, wN_length]; omega)
    | (simp only [wN, List.append_nil]; done)
    | exact nlb (b := true) (fun _ h2 => by have := hc h2 trivial; omega)
    | exact words_step0 (hi_u8 _ _ (by decide)) (wrap_u8 _)
    | (have e := Nat.le_antisymm hk (by omega); subst e; rfl)
    | (rw [IntWalk.i64_in _ (by omega)]; omega)
theorem rfwords_ok : CtOk Try.prog 42 RwordsS.ct := Sp.ok Γs_ok hm Try.func42 RwordsS RwordsS_found LFW rfwords_vc
def m8 (x : SS) : Nat := (IntKind.i64.wrap ((IntKind.i64.wrap ((x.n : Int) + 7)).tdiv 8)).toNat
theorem m8_of {x : SS} (h : x.n ≤ 2000000) : m8 x = (x.n + 7) / 8 := by
  rw [m8, IntWalk.i64_in ((x.n : Int) + 7) (by omega), Int.tdiv_eq_ediv_of_nonneg (by omega), IntWalk.i64_in _ (by omega)]; omega
def bR (f : Nat → Int) (m : Nat) (g : Int → Nat → Int) : Nat → List Int
  | 0 => List.replicate m 0
  | k + 1 => bif f k == 0 then bR f m g k else (bR f m g k).set (k / 8) (g ((bR f m g k).getD (k / 8) 0) k)
noncomputable def LFB (x : SS) : Loops := fun body s => match loopId body with
  | _ => some (cntLI Try.f43 body s x.n (fun k => True) (fun k => [(4, iv k)]) (fun k => [some (wO x), some (.arr true 5 (m8 x) (m8 x) [.int .u8 (bR x.get (m8 x) bor k)])]))
theorem bR_length (f : Nat → Int) (m : Nat) (g : Int → Nat → Int) (k : Nat) : (bR f m g k).length = m := by
  induction k with
  | zero => simp [bR]
  | succ k ih => simp only [bR]; cases f k == 0 <;> simp [ih]
theorem bR_yes {f : Nat → Int} {m k : Nat} {g : Int → Nat → Int} (h : (f k != 0) = true) : bR f m g (k + 1) = (bR f m g k).set (k / 8) (g ((bR f m g k).getD (k / 8) 0) k) := by
  have h : (f k == 0) = false := by simpa [bne] using h
  simp only [bR, h, cond_false]
theorem bR_no {f : Nat → Int} {m k : Nat} {g : Int → Nat → Int} (h : (f k != 0) = false) : bR f m g (k + 1) = bR f m g k := by
  have h : (f k == 0) = true := by simpa [bne] using h
  simp only [bR, h, cond_true]
def RbitsS : Sp where
  X := SS
  Y := fun _ => Nat × Nat
  y0 := fun _ => (0, 0)
  pat := fun x => ([ssV x 0], [some (wO x)])
  fnd := BitsS.fnd
  pre := WOk
  res := fun x y => ⟨.sl false 1 1 0 (m8 x) (m8 x + y.1), [], [ownO (m8 x) y (bR x.get (m8 x) bor x.n)]⟩
  pick := fun x v H => (pkO (m8 x) v H).map fun (y, b) => (y, [0, b])
theorem RbitsS_found : RbitsS.spec.Found := fun _ _ _ _ h => BitsS_found _ _ _ _ h
set_option maxRecDepth 100000 in
theorem rfbits_nf (t : SS) : (fnV Try.prog Γs (LFB t) Try.f43 [ssV t 0] [some (wO t)] (Sp.good RbitsS t)) = (let q := IntKind.wrap IntKind.i64 (Int.tdiv (IntKind.wrap IntKind.i64 ((↑(SS.n t) : Int) + 7)) 8); let q_1 := AO.arr (SS.rw t) 44 (SS.room t) (SS.m t) [Col.int IntKind.u16 (SS.l t)]; let q_2 := AV.sl false 1 1 0 (Int.toNat q) (Int.toNat q); let q_3 := AV.sl (SS.nl t) 0 1 (SS.off t) (SS.n t) (SS.cap t); let q_4 := AO.arr true 5 (m8 t) (m8 t) [Col.int IntKind.u8 (bR (SS.get t) (m8 t) bor 0)]; let q_5 := AV.val (Value.slice none 0 0); let q_6 := (↑1 : Int) * q; let q_7 := AV.val (Value.int IntKind.i64 0); Bif (decide (0 ≤ q) && decide (q ≤ q) && decide (q_6 ≤ 281474976710656)) (((0 ≤ SS.n t ∧ True) ∧ (q_7 = q_7 ∧ q_2 = q_2 ∧ q_5 = q_5 ∧ q_3 = q_3 ∧ True) ∧ Bif (AO.deadB q_1) True (q_1 = q_1) ∧ Bif (AO.deadB q_4) True (AO.arr true 5 (Int.toNat q) (Int.toNat q) [Col.int IntKind.u8 (List.replicate (Int.toNat q) 0)] = q_4) ∧ True) ∧ ∀ (x : Nat), let q_8 := q_2; let q_9 := q_1; let q_10 := x + 1; let q_11 := q_3; let q_12 := q_5; let q_13 := IntKind.wrap IntKind.i64 (Int.tdiv (↑x : Int) 8); let q_14 := SS.off t + x; let q_15 := bR (SS.get t) (m8 t) bor x; x ≤ SS.n t ∧ True → let q_16 := AV.val (Value.int IntKind.i64 (IntKind.wrap IntKind.i64 ((↑x : Int) + 1))) = AV.val (Value.int IntKind.i64 (↑q_10 : Int)) ∧ q_8 = q_8 ∧ q_12 = q_12 ∧ q_11 = q_11 ∧ True; let q_17 := 0 + Int.toNat q_13; let q := Int.toNat q; let q_18 := AO.arr true 5 (m8 t) (m8 t) [Col.int IntKind.u8 (bR (SS.get t) (m8 t) bor q_10)]; let q_19 := Bif (AO.deadB q_9) True (q_9 = q_9); let q_20 := SS.n t - q_10 < SS.n t - x; let q_21 := decide (q_14 < SS.m t); let q_22 := inR q_13 q && decide (q_17 < m8 t); let q_23 := AO.arr true 5 (m8 t) (m8 t) [Col.int IntKind.u8 q_15]; let q_24 := q_9; let q_25 := q_10 ≤ SS.n t ∧ True; let q_26 := m8 t + (q - m8 t); let q_27 := q_15; let q_28 := decide (q_17 < m8 t); let q_29 := m8 t - q; let q_30 := bR (SS.get t) (m8 t) bor (SS.n t); Bif (decide ((↑x : Int) < (↑(SS.n t) : Int))) (Bif (!SS.nl t && (inR (↑x : Int) (SS.n t) && q_21)) (Bif q_21 (Bif (List.getD (SS.l t) (SS.off t + Int.toNat (↑x : Int)) 0 != 0) (Bif q_22 (Bif q_28 (Bif q_22 (Bif (q_28 && (decide (q_17 < List.length q_27) && true)) (q_25 ∧ q_20 ∧ q_16 ∧ q_19 ∧ Bif (AO.deadB q_18) True (AO.arr true 5 (m8 t) (m8 t) [Col.int IntKind.u8 (List.set q_27 q_17 (IntKind.wrap IntKind.u8 (↑(BitVec.toNat (BitVec.ofInt (IntKind.bits IntKind.u8) (List.getD q_27 q_17 0) ||| BitVec.ofInt (IntKind.bits IntKind.u8) (IntKind.wrap IntKind.u8 (1 * 2 ^ min (Int.toNat (Int.tmod (↑x : Int) 8)) (IntKind.bits IntKind.u8))))) : Int)))] = q_18) ∧ True) False) False) False) False) (q_25 ∧ q_20 ∧ q_16 ∧ q_19 ∧ Bif (AO.deadB q_18) True (q_23 = q_18) ∧ True)) False) False) ((AV.sl false 1 1 0 q q = AV.sl false 1 1 0 (m8 t) q_26 ∧ True) ∧ Bif (AO.deadB (wO t)) True (q_24 = q_24) ∧ Bif (AO.deadB (ownO (m8 t) (q - m8 t, q_29) q_30)) True (q_23 = AO.arr true 5 (q_26 + q_29) (m8 t) [Col.int IntKind.u8 q_30]) ∧ True)) False) := by kernel_rfl
set_option maxHeartbeats 1000000 in
theorem rfbits_vc (t : SS) (ht : WOk t) : FnV Try.prog Γs (LFB t) Try.f43 [ssV t 0] [some (wO t)] (RbitsS.good t) := by
  have hn2 := ht.nl0
  obtain ⟨k1, k2, k3, k4, k5, k6, k7⟩ := ht
  have hm : m8 t = (t.n + 7) / 8 := m8_of k3
  have hm' : (IntKind.i64.wrap ((IntKind.i64.wrap ((t.n : Int) + 7)).tdiv 8)) = (m8 t : Int) := by
    rw [hm, IntWalk.i64_in ((t.n : Int) + 7) (by omega), Int.tdiv_eq_ediv_of_nonneg (by omega), IntWalk.i64_in _ (by omega)]; omega
  refine FnV.of (rfbits_nf _) ?_
  all_goals try simp only [Bif_need, Bif_True]
  all_goals try simp only [Bif_iff, eq_self, and_true, true_and, AV.val.injEq, AV.agg.injEq, AV.tup.injEq, AV.sl.injEq, AV.ptr.injEq, AV.mp.injEq, Value.int.injEq, Value.bool.injEq, Value.string.injEq, AO.cells.injEq, AO.arr.injEq, AO.mapc.injEq, List.cons.injEq, Col.bool.injEq, Col.int.injEq, Col.str.injEq, MCol.int.injEq, MCol.bool.injEq, MCol.str.injEq, decide_eq_true_eq, decide_eq_false_iff_not, Nat.zero_add, Nat.add_zero, implies_true, Bool.and_eq_true, inR_iff, List.drop_zero, List.take_nil, List.drop_nil, List.nil_append, Int.toNat_natCast, longEnough, colLen, Bool.not_true, Bool.not_false, Bool.true_or, Bool.or_eq_true, Bool.not_eq_true', Bool.not_eq_false', take_take_self, take_tab, one_col, tab_length, mix_length, List.length_take, Nat.min_eq_left, List.set_cons_zero, blt01, Bool.and_false, Bool.and_true, Bool.false_and, Bool.true_and, Bool.false_eq_true, Bool.true_eq_false, false_and, and_false, false_implies]
  all_goals repeat' (first | apply And.intro | intro (⟨k, c, r⟩ : Nat × Nat × Nat) | intro _)
  all_goals try dsimp only at *
  all_goals try omega
  all_goals try simp only [hm', Int.toNat_natCast, bR_length] at *
  all_goals try simp (disch := omega) only [td8, Int.toNat_natCast]
  all_goals first
    | omega
    | exact hn2 (by omega)
    | rfl
    | (rw [IntWalk.i64_in _ (by omega)]; omega)
    | exact (bR_yes (f := t.get) ‹_›).symm
    | exact (bR_no (f := t.get) ‹_›).symm
    | (have e := Nat.le_antisymm ‹_ ≤ t.n› (by omega); rw [e])
theorem rfbits_ok : CtOk Try.prog 43 RbitsS.ct := Sp.ok Γs_ok hm Try.func43 RbitsS RbitsS_found LFB rfbits_vc
noncomputable def Γt : Cts := (Γs.add 42 RwordsS.ct).add 43 RbitsS.ct
theorem Γt_ok : CtsOk Try.prog Γt := (Γs_ok.add rfwords_ok Try.func42 (by kernel_rfl) (by kernel_rfl)).add rfbits_ok Try.func43 (by kernel_rfl) (by kernel_rfl)
end Go.Wk.P05
