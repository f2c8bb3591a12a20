/-
  Right; under the rows' own bounds.
-/
import Derived.Test.YtmbeekfbnfndgaaPg
namespace Go.Wk.P04
open Go Go.Vs Go.Proofs
set_option linter.unusedSimpArgs false
set_option linter.unusedVariables false
set_option maxRecDepth 10000

/-! Right -/
def kdAt (n : Int) : Kd := (kdOf n).getD kd0
def right (q : Rq) : Bool := (kdOf q.fc).isSome && (shaped (kdAt q.fc) q && ends (kdAt q.fc) q)
noncomputable def Γ4 : Cts := ((Γ3.add 44 KindsS.ct).add 45 ShapedS.ct).add 46 EndsS.ct
theorem Γ4_ok : CtsOk Try.prog Γ4 := ((Γ3_ok.add kinds_ok Try.func44 (by kernel_rfl) (by kernel_rfl)).add shaped_ok Try.func45 (by kernel_rfl) (by kernel_rfl)).add ends_ok Try.func46 (by kernel_rfl) (by kernel_rfl)
theorem kdAt_most (n : Int) : 0 ≤ (kdAt n).most ∧ (kdAt n).most ≤ 2000 := by
  rcases kcases n with h | h | h | h | h | h | h | h | h | h | ⟨h1, h2, h3, h4, h5, h6, h7, h8, h9, h10⟩ <;> first
    | (subst h; decide)
    | (simp only [kdAt, kdOf, h1, h2, h3, h4, h5, h6, h7, h8, h9, h10, if_false]; decide)
theorem shaped_low {q : Rq} {n : Int} (h : shaped (kdAt n) q = true) : Low q := by
  have := kdAt_most n
  simp only [shaped, Bool.and_eq_true, Bool.or_eq_true, decide_eq_true_eq, beq_iff_eq] at h
  obtain ⟨_, h1, _, h2, h3, _⟩ := h
  exact ⟨h2, h3, by omega⟩
def RightS : Sp where
  X := Rq
  Y := fun _ => Unit
  y0 := fun _ => ()
  pat := fun x => ([rqV x 0], [some (wO x.v)])
  fnd := fun args H => match args with | [v] => (match fndQ v H with | some (q, b) => some (q, [b]) | none => none) | _ => none
  pre := RqOk
  res := fun x _ => just (bv (right x))
  pick := fun _ _ _ => some ((), [0])
theorem RightS_found : RightS.spec.Found := by
  intro args H x σ h
  simp only [Sp.spec, RightS] at h
  split at h
  rotate_left
  · cases h
  split at h
  rotate_left
  · cases h
  rename_i q b hq
  cases h
  obtain ⟨rfl, h2⟩ := fndQ_found hq
  exact ⟨rfl, fun i ao hi => by
    match i, hi with
    | 0, hi => obtain rfl := Option.some.inj (Option.some.inj hi); exact h2⟩
set_option maxRecDepth 100000 in
theorem right_nf (q : Rq) : (fnV Try.prog Γ4 (fun (x : Code) (x_1 : AS) => none) Try.f29 [rqV q 0] [some (wO (Rq.v q))] (Sp.good RightS q)) = (True ∧ ∀ (x : Unit), let q_1 := AO.arr (SS.rw (Rq.v q)) 44 (SS.room (Rq.v q)) (SS.m (Rq.v q)) [Col.int IntKind.u16 (SS.l (Rq.v q))]; let q_2 := AV.val (Value.bool false) = AV.val (Value.bool (right q)) ∧ True; let q_3 := Rq.mk (Rq.fc q) (Rq.addr q) (Rq.qty q) (Rq.v q) (Rq.to q); Bif (kHas (Value.int IntKind.i64 (Rq.fc q))) (RqOk q_3 ∧ ∀ (x : Unit), let q_4 := q_1; let q_5 := Kd.mk (kMost (Value.int IntKind.i64 (Rq.fc q))) (kLeast (Value.int IntKind.i64 (Rq.fc q))) (kMore (Value.int IntKind.i64 (Rq.fc q))) (kAll (Value.int IntKind.i64 (Rq.fc q))) (kReads (Value.int IntKind.i64 (Rq.fc q))) (kBits (Value.int IntKind.i64 (Rq.fc q))) (kTo (Value.int IntKind.i64 (Rq.fc q))); let q_6 := q_3; Bif (shaped q_5 q) ((RqOk q_6 ∧ Low q_6) ∧ ∀ (x : Unit), let q_7 := q_4; (AV.val (Value.bool (ends q_5 q)) = AV.val (Value.bool (right q)) ∧ True) ∧ Bif (AO.deadB (wO (Rq.v q))) True (q_7 = q_7) ∧ True) (q_2 ∧ Bif (AO.deadB (wO (Rq.v q))) True (q_4 = q_4) ∧ True)) (q_2 ∧ Bif (AO.deadB (wO (Rq.v q))) True (q_1 = q_1) ∧ True)) := by kernel_rfl
set_option maxHeartbeats 1000000 in
theorem right_vc (q : Rq) (hq : RqOk q) : FnV Try.prog Γ4 (fun _ _ => none) Try.f29 [rqV q 0] [some (wO q.v)] (RightS.good q) := by
  have hq' := hq
  obtain ⟨h1, h2, h3, h4, h5⟩ := hq
  refine FnV.of (right_nf _) ?_
  all_goals try simp only [Bif_need, Bif_True]
  all_goals try simp only [Bif_iff, eq_self, and_true, true_and, AV.val.injEq, AV.agg.injEq, AV.tup.injEq, AV.sl.injEq, AV.ptr.injEq, AV.mp.injEq, Value.int.injEq, Value.bool.injEq, Value.string.injEq, AO.cells.injEq, AO.arr.injEq, AO.mapc.injEq, List.cons.injEq, Col.bool.injEq, Col.int.injEq, Col.str.injEq, MCol.int.injEq, MCol.bool.injEq, MCol.str.injEq, decide_eq_true_eq, decide_eq_false_iff_not, Nat.zero_add, Nat.add_zero, implies_true, Bool.and_eq_true, inR_iff, List.drop_zero, List.take_nil, List.drop_nil, List.nil_append, Int.toNat_natCast, longEnough, colLen, Bool.not_true, Bool.not_false, Bool.true_or, Bool.or_eq_true, Bool.not_eq_true', Bool.not_eq_false', take_take_self, take_tab, one_col, tab_length, mix_length, List.length_take, Nat.min_eq_left, List.set_cons_zero, blt01, Bool.and_false, Bool.and_true, Bool.false_and, Bool.true_and, Bool.false_eq_true, Bool.true_eq_false, false_and, and_false, false_implies]
  all_goals repeat' (first | apply And.intro | intro (⟨k, c, r⟩ : Nat × Nat × Nat) | intro _)
  all_goals try dsimp only at *
  all_goals try omega
  all_goals first
    | assumption
    | exact shaped_low (n := q.fc) ‹_›
    | (have e1 := ‹kHas (Value.int IntKind.i64 q.fc) = false›; have e2 : (kdOf q.fc).isSome = false := e1; simp only [right, e2, Bool.false_and]; done)
    | (have e1 := ‹kHas (Value.int IntKind.i64 q.fc) = true›; have e2 : (kdOf q.fc).isSome = true := e1; have e3 : shaped (kdAt q.fc) q = true := ‹_›; simp only [right, e2, e3, Bool.true_and]; rfl)
    | (have e3 : shaped (kdAt q.fc) q = false := ‹_›; simp only [right, e3, Bool.false_and, Bool.and_false]; done)
theorem right_ok : CtOk Try.prog 29 RightS.ct := Sp.ok Γ4_ok hm Try.func29 RightS RightS_found (fun _ _ _ => none) right_vc
end Go.Wk.P04
