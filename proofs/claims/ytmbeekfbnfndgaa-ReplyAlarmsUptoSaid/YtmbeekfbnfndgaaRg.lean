/-
  Alarm; under the rows' own bounds.
-/
import Derived.Test.YtmbeekfbnfndgaaRf
namespace Go.Wk.P05
open Go Go.Vs Go.Proofs Go.Wk.P04
set_option linter.unusedSimpArgs false
set_option linter.unusedVariables false
set_option maxRecDepth 10000

/-! Alarm -/
def isAlarm (c : Int) : Bool := decide (c ≥ 1) && decide (c ≤ 4)
def first0 (x : SS) : Int := bif Nat.beq x.n 0 then 0 else x.get 0
def alarmL (x : SS) (c : Int) : List Int := bif isAlarm c then [or128 (first0 x), c % 256] else []
noncomputable def Γl : Cts := ((Γk.add 11 RgetS.ct).add 26 (autoCt Try.prog Γnone Try.f26))
theorem Γl_ok : CtsOk Try.prog Γl := (Γk_ok.add rget_ok Try.func11 (by kernel_rfl) (by kernel_rfl)).add (autoCt_ok CtsOk.none hm Try.func26) Try.func26 (by kernel_rfl) (by kernel_rfl)
def AlarmS : Sp where
  X := SS × Int
  Y := fun _ => Nat × Nat
  y0 := fun _ => (0, 0)
  pat := fun x => ([ssV x.1 0, iv x.2], [some (bO x.1)])
  fnd := UnbitsS.fnd
  pre := fun x => BOk x.1
  res := fun x y => ⟨.sl (!isAlarm x.2) 1 1 0 (alarmL x.1 x.2).length ((alarmL x.1 x.2).length + y.1), [], [ownO (alarmL x.1 x.2).length y (alarmL x.1 x.2)]⟩
  pick := fun x v H => (pkO (alarmL x.1 x.2).length v H).map fun (y, b) => (y, [0, b])
theorem AlarmS_found : AlarmS.spec.Found := fun _ _ _ _ h => UnbitsS_found _ _ _ _ h
set_option maxRecDepth 100000 in
theorem alarm_nf (x : SS) (c : Int) : (fnV Try.prog Γl (fun (x : Code) (x_1 : AS) => none) Try.f16 [ssV x 0, iv c] [some (bO x)] (Sp.good AlarmS (x, c))) = (let q := (((!isAlarm c) = true ∧ List.length (alarmL x c) = 0 ∧ List.length (alarmL x c) + (0 - List.length (alarmL x c)) = 0) ∧ True) ∧ Bif (AO.deadB (bO x)) True (AO.arr (SS.rw x) 5 (SS.room x) (SS.m x) [Col.int IntKind.u8 (SS.l x)] = AO.arr (SS.rw x) 5 (SS.room x) (SS.m x) [Col.int IntKind.u8 (SS.l x)]) ∧ Bif (AO.deadB (ownO (List.length (alarmL x c)) (0 - List.length (alarmL x c), 0) (alarmL x c))) True False ∧ True; let q_1 := 0 + SS.n x; let q_2 := 2 - List.length (alarmL x c); let q_3 := SS.off x + SS.n x; let q_4 := AO.arr (SS.rw x) 5 (SS.room x) (SS.m x) [Col.int IntKind.u8 (SS.l x)]; let q_5 := q_1 * 1; let q_6 := List.replicate 2 0; let q_7 := [Col.int IntKind.u8 (alarmL x c)]; Bif (decide (c ≥ 1)) (Bif (!decide (c ≤ 4)) q (Bif (SS.nl x) (∀ (x_1 : Nat), let q := List.length (alarmL x c) + q_2; let q_8 := q_4; (AV.sl false 3 1 0 2 2 = AV.sl (!isAlarm c) 3 1 0 (List.length (alarmL x c)) q ∧ True) ∧ Bif (AO.deadB (bO x)) True (q_8 = q_8) ∧ Bif (AO.deadB (ownO (List.length (alarmL x c)) (q_2, 0) (alarmL x c))) True (AO.arr true 5 2 2 [Col.int IntKind.u8 (List.set (List.set q_6 0 (IntKind.wrap IntKind.u8 (↑128 : Int))) 1 (IntKind.wrap IntKind.u8 c))] = AO.arr true 5 (q + 0) (List.length (alarmL x c)) q_7) ∧ True) (Bif (decide (q_3 ≤ SS.m x) && (longEnough q_3 [Col.int IntKind.u8 (SS.l x)] && (!SS.nl x || decide (SS.n x = 0))) && (decide (q_5 ≤ 140737488355328) && decide (q_1 ≤ 9223372036854775807)) && true) (∀ (x_1 : Nat), let q := q_1; let q_8 := List.take 0 (List.drop 0 (List.replicate 0 0)) ++ List.take (SS.n x) (List.drop (SS.off x) (SS.l x)); let q_9 := 0 + q; let q_10 := q + 1; let q_11 := 0 + (q + x_1); let q_12 := q_2; let q_13 := q_10 * 1; let q_14 := q + x_1; Bif (decide (q_9 ≤ q) && (longEnough q_9 [Col.int IntKind.u8 q_8] && true) && (decide (q_13 ≤ 140737488355328) && decide (q_10 ≤ 9223372036854775807)) && (decide (q_11 ≤ q_14) && true)) (∀ (x_2 : Nat), let q_15 := List.length (alarmL x c) + q_12; let q_16 := q_4; let q := q; Bif (inR 0 (q + 1) && true) ((AV.sl false 5 1 0 2 2 = AV.sl (!isAlarm c) 5 1 0 (List.length (alarmL x c)) q_15 ∧ True) ∧ Bif (AO.deadB (bO x)) True (q_16 = q_16) ∧ Bif (AO.deadB (ownO (List.length (alarmL x c)) (q_12, 0) (alarmL x c))) True (AO.arr true 5 2 2 [Col.int IntKind.u8 (List.set (List.set q_6 0 (IntKind.wrap IntKind.u8 (↑(BitVec.toNat (BitVec.ofInt (IntKind.bits IntKind.u8) (List.getD (List.take q (List.drop 0 q_8) ++ List.take 1 (List.drop 0 (List.set (List.replicate 1 0) 0 0))) (0 + Int.toNat 0) 0) ||| BitVec.ofInt (IntKind.bits IntKind.u8) 128)) : Int))) 1 (IntKind.wrap IntKind.u8 c))] = AO.arr true 5 (q_15 + 0) (List.length (alarmL x c)) q_7) ∧ True) False) False) False))) q) := by kernel_rfl
set_option maxHeartbeats 1000000 in
theorem alarm_vc (x : SS) (c : Int) (hx : BOk x) : FnV Try.prog Γl (fun _ _ => none) Try.f16 [ssV x 0, iv c] [some (bO x)] (AlarmS.good (x, c)) := by
  have hx' := hx
  have hor := nl_or hx
  have hv := SS.val_len hx
  obtain ⟨k1, k2, k3, k4, k5, k6, k7⟩ := hx
  have i1 : c ≥ 1 → c ≤ 4 → isAlarm c = true := fun h h' => by simp only [isAlarm, decide_eq_true h, decide_eq_true h', Bool.and_self]
  have i2 : ¬ c ≥ 1 → isAlarm c = false := fun h => by simp only [isAlarm, decide_eq_false h, Bool.false_and]
  have i3 : ¬ c ≤ 4 → isAlarm c = false := fun h => by simp only [isAlarm, decide_eq_false h, Bool.and_false]
  have l1 : isAlarm c = true → alarmL x c = [or128 (first0 x), c % 256] := fun h => by simp only [alarmL, h, cond_true]
  have l2 : isAlarm c = false → alarmL x c = [] := fun h => by simp only [alarmL, h, cond_false]
  have f1 : x.nl = true → first0 x = 0 := fun h => by have := k6 h; simp only [first0, this]; rfl
  have f2 : (List.take x.n (List.take 0 (List.replicate 0 (0 : Int)) ++ List.take x.n (List.drop x.off x.l)) ++ [0]).getD (Int.toNat 0) 0 = first0 x := by
    simp only [List.take_zero, List.nil_append, List.take_take, Nat.min_self]
    show ((x.val) ++ [0]).getD 0 0 = _
    by_cases hn : x.n = 0
    · have : x.val = [] := List.eq_nil_of_length_eq_zero (by omega)
      rw [this]; simp only [first0, hn]; rfl
    · rw [getD_app_left (by omega), SS.val_getD (by omega)]
      have : Nat.beq x.n 0 = false := by cases h : x.n with | zero => omega | succ n => rfl
      simp only [first0, this]; rfl
  have f3 : (List.take 0 (List.replicate 0 (0 : Int)) ++ List.take x.n (List.drop x.off x.l)).length = x.n := by
    simp only [List.take_zero, List.nil_append]; exact hv
  refine FnV.of (alarm_nf _ _) ?_
  all_goals try simp only [Bif_need, Bif_True]
  all_goals try simp only [Bif_iff, eq_self, and_true, true_and, AV.val.injEq, AV.agg.injEq, AV.tup.injEq, AV.sl.injEq, AV.ptr.injEq, AV.mp.injEq, Value.int.injEq, Value.bool.injEq, Value.string.injEq, AO.cells.injEq, AO.arr.injEq, AO.mapc.injEq, List.cons.injEq, Col.bool.injEq, Col.int.injEq, Col.str.injEq, MCol.int.injEq, MCol.bool.injEq, MCol.str.injEq, decide_eq_true_eq, decide_eq_false_iff_not, Nat.zero_add, Nat.add_zero, implies_true, Bool.and_eq_true, inR_iff, List.drop_zero, List.take_nil, List.drop_nil, List.nil_append, Int.toNat_natCast, longEnough, colLen, Bool.not_true, Bool.not_false, Bool.true_or, Bool.or_eq_true, Bool.not_eq_true', Bool.not_eq_false', take_take_self, take_tab, one_col, tab_length, mix_length, List.length_take, Nat.min_eq_left, List.set_cons_zero, blt01, Bool.and_false, Bool.and_true, Bool.false_and, Bool.true_and, Bool.false_eq_true, Bool.true_eq_false, false_and, and_false, false_implies, wrap_u8]
  all_goals repeat' (first | apply And.intro | intro (⟨k, c, r⟩ : Nat × Nat × Nat) | intro _)
  all_goals try dsimp only at *
  all_goals try omega
  all_goals try rw [f2]
  all_goals try (first
    | have ia := i1 ‹_› ‹_›
    | have ia := i2 ‹_›
    | have ia := i3 ‹_›)
  all_goals try (first
    | have la := l1 ia
    | have la := l2 ia)
  all_goals try rw [la]
  all_goals first
    | assumption
    | omega
    | rfl
    | exact decide_eq_true (by omega)
    | (rw [ia]; rfl)
    | (rw [f1 ‹_›]; rfl)
    | (rw [f3]; omega)
theorem alarm_ok : CtOk Try.prog 16 AlarmS.ct := Sp.ok Γl_ok hm Try.func16 AlarmS AlarmS_found (fun _ _ _ => none) (fun x h => alarm_vc x.1 x.2 h)
end Go.Wk.P05
