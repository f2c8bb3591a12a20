/-
  Put; under the rows' own bounds.
-/
import Derived.Test.YtmbeekfbnfndgaaPi
namespace Go.Wk.P04
open Go Go.Vs Go.Proofs
set_option linter.unusedSimpArgs false
set_option linter.unusedVariables false
set_option maxRecDepth 10000

/-! Put -/
def putL (q : Rq) : List Int := bif right q then putB (kdAt q.fc) q else []
noncomputable def Γ6 : Cts := (Γ5.add 48 PutKS.ct).add 29 RightS.ct
theorem Γ6_ok : CtsOk Try.prog Γ6 := (Γ5_ok.add putK_ok Try.func48 (by kernel_rfl) (by kernel_rfl)).add right_ok Try.func29 (by kernel_rfl) (by kernel_rfl)
/-- Room beyond, if there is any. -/
def roomIf (b : Bool) (y : Nat × Nat) : Nat × Nat := bif b then y else (0, 0)
def PutS : Sp where
  X := Rq
  Y := fun _ => Nat × Nat
  y0 := fun _ => (0, 0)
  pat := fun x => ([rqV x 0], [some (wO x.v)])
  fnd := RightS.fnd
  pre := RqOk
  res := fun x y => ⟨.sl (!right x) 1 1 0 (putL x).length ((putL x).length + (roomIf (right x) y).1), [], [ownO (putL x).length (roomIf (right x) y) (putL x)]⟩
  pick := fun x v H => (pkO (putL x).length v H).map fun (y, b) => (y, [0, b])
theorem PutS_found : PutS.spec.Found := fun _ _ _ _ h => RightS_found _ _ _ _ h
set_option maxRecDepth 100000 in
theorem putq_nf (q : Rq) : (fnV Try.prog Γ6 (fun (x : Code) (x_1 : AS) => none) Try.f34 [rqV q 0] [some (wO (Rq.v q))] (Sp.good PutS q)) = (let q_1 := RqOk (Rq.mk (Rq.fc q) (Rq.addr q) (Rq.qty q) (Rq.v q) (Rq.to q)); q_1 ∧ ∀ (x : Unit), let q_2 := AO.arr (SS.rw (Rq.v q)) 44 (SS.room (Rq.v q)) (SS.m (Rq.v q)) [Col.int IntKind.u16 (SS.l (Rq.v q))]; let q_3 := Kd.mk (kMost (Value.int IntKind.i64 (Rq.fc q))) (kLeast (Value.int IntKind.i64 (Rq.fc q))) (kMore (Value.int IntKind.i64 (Rq.fc q))) (kAll (Value.int IntKind.i64 (Rq.fc q))) (kReads (Value.int IntKind.i64 (Rq.fc q))) (kBits (Value.int IntKind.i64 (Rq.fc q))) (kTo (Value.int IntKind.i64 (Rq.fc q))); let q_4 := roomIf (right q) (0 - List.length (putL q), 0); Bif (!right q) ((((!right q) = true ∧ List.length (putL q) = 0 ∧ List.length (putL q) + Prod.fst q_4 = 0) ∧ True) ∧ Bif (AO.deadB (wO (Rq.v q))) True (q_2 = q_2) ∧ Bif (AO.deadB (ownO (List.length (putL q)) q_4 (putL q))) True False ∧ True) (True ∧ ∀ (x : Unit), let q_5 := List.length (putB q_3 q); let q_6 := q_3; (q_1 ∧ q_6 = kdAt (Rq.fc q) ∧ shaped q_6 q = true) ∧ ∀ (x : Nat × Nat), let q_7 := roomIf (right q) (q_5 + Prod.fst x - List.length (putL q), q_5 + Prod.fst x + Prod.snd x - (q_5 + Prod.fst x)); let q_8 := q_5; let q_9 := q_2; let q_10 := List.length (putL q) + Prod.fst q_7; let q_11 := q_8 + Prod.fst x; (AV.sl false 12 1 0 q_8 q_11 = AV.sl (!right q) 12 1 0 (List.length (putL q)) q_10 ∧ True) ∧ Bif (AO.deadB (wO (Rq.v q))) True (q_9 = q_9) ∧ Bif (AO.deadB (ownO (List.length (putL q)) q_7 (putL q))) True (AO.arr true 5 (q_11 + Prod.snd x) q_8 [Col.int IntKind.u8 (putB q_6 q)] = AO.arr true 5 (q_10 + Prod.snd q_7) (List.length (putL q)) [Col.int IntKind.u8 (putL q)]) ∧ True)) := by kernel_rfl
set_option maxHeartbeats 1000000 in
theorem put_vc (q : Rq) (hq : RqOk q) : FnV Try.prog Γ6 (fun _ _ => none) Try.f34 [rqV q 0] [some (wO q.v)] (PutS.good q) := by
  have hq' := hq
  obtain ⟨h1, h2, h3, h4, h5⟩ := hq
  have hkd : (⟨kMost (.int .i64 q.fc), kLeast (.int .i64 q.fc), kMore (.int .i64 q.fc), kAll (.int .i64 q.fc), kReads (.int .i64 q.fc), kBits (.int .i64 q.fc), kTo (.int .i64 q.fc)⟩ : Kd) = kdAt q.fc := rfl
  have p1 : right q = true → putB (kdAt q.fc) q = putL q := fun h => by simp only [putL, h, cond_true]
  have p2 : right q = false → putL q = [] := fun h => by simp only [putL, h, cond_false]
  have p3 : right q = true → shaped (kdAt q.fc) q = true := fun h => by
    simp only [right, Bool.and_eq_true] at h; exact h.2.1
  refine FnV.of (putq_nf _) ?_
  all_goals try simp only [Bif_need, Bif_True]
  all_goals try simp only [Bif_iff, eq_self, and_true, true_and, AV.val.injEq, AV.agg.injEq, AV.tup.injEq, AV.sl.injEq, AV.ptr.injEq, AV.mp.injEq, Value.int.injEq, Value.bool.injEq, Value.string.injEq, AO.cells.injEq, AO.arr.injEq, AO.mapc.injEq, List.cons.injEq, Col.bool.injEq, Col.int.injEq, Col.str.injEq, MCol.int.injEq, MCol.bool.injEq, MCol.str.injEq, decide_eq_true_eq, decide_eq_false_iff_not, Nat.zero_add, Nat.add_zero, implies_true, Bool.and_eq_true, inR_iff, List.drop_zero, List.take_nil, List.drop_nil, List.nil_append, Int.toNat_natCast, longEnough, colLen, Bool.not_true, Bool.not_false, Bool.true_or, Bool.or_eq_true, Bool.not_eq_true', Bool.not_eq_false', take_take_self, take_tab, one_col, tab_length, mix_length, List.length_take, Nat.min_eq_left, List.set_cons_zero, blt01, Bool.and_false, Bool.and_true, Bool.false_and, Bool.true_and, Bool.false_eq_true, Bool.true_eq_false, false_and, and_false, false_implies]
  all_goals repeat' (first | apply And.intro | intro (⟨k, c, r⟩ : Nat × Nat × Nat) | intro _)
  all_goals try dsimp only at *
  all_goals try omega
  all_goals try simp only [hkd]
  all_goals try simp only [p1 ‹right q = true›, (‹right q = true› : right q = true), roomIf, cond_true]
  all_goals try simp only [p2 ‹right q = false›, (‹right q = false› : right q = false), roomIf, cond_false, List.length_nil]
  all_goals first
    | assumption
    | exact p3 ‹_›
    | omega
    | rfl
theorem put_ok : CtOk Try.prog 34 PutS.ct := Sp.ok Γ6_ok hm Try.func34 PutS PutS_found (fun _ _ _ => none) put_vc
end Go.Wk.P04
