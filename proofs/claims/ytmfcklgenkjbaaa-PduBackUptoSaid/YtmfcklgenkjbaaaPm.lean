/-
  Reads, Writes, the live question; under the rows' own bounds.
-/
import Derived.Test.YtmfcklgenkjbaaaPl
import Derived.Test.YtmfcklgenkjbaaaKc
namespace Go.Wk.P04
open Go Go.Vs Go.Proofs
set_option linter.unusedSimpArgs false
set_option linter.unusedVariables false
set_option maxRecDepth 10000

noncomputable def Γ9 : Cts := (((Γ8.add 11 GetS.ct).add 23 (SameVS.ct.nil 33 .u16)).add 9 (PutS.ct.nil 33 .u16)).add 10 (RightS.ct.nil 33 .u16)
theorem Γ9_ok : CtsOk Try.prog Γ9 := (((Γ8_ok.add get_ok Try.func11 (by kernel_rfl) (by kernel_rfl)).add (sameV_ok.nil _ _) Try.func23 (by kernel_rfl) (by kernel_rfl)).add (put_ok.nil _ _) Try.func9 (by kernel_rfl) (by kernel_rfl)).add (right_ok.nil _ _) Try.func10 (by kernel_rfl) (by kernel_rfl)
def isReads (n : Int) : Bool := (kdAt n).reads
def isWrites (n : Int) : Bool := decide ((kdAt n).more > 0) || (kdAt n).all
def ReadsS : Sp where
  X := Int
  Y := fun _ => Unit
  y0 := fun _ => ()
  pat := fun x => ([iv x], [])
  fnd := fun args H => match args with | [.val (.int .i64 n)] => some (n, []) | _ => none
  pre := fun _ => True
  res := fun x _ => just (.tup [bv (isReads x), bv (isReads x && (kdAt x).bits)])
  pick := fun _ _ _ => some ((), [])
theorem ReadsS_found : ReadsS.spec.Found := by
  intro args H x σ h
  simp only [Sp.spec, ReadsS] at h
  split at h
  rotate_left
  · cases h
  cases h
  exact ⟨rfl, fun i ao hi => nomatch (show (none : Option (Option AO)) = some (some ao) from hi)⟩
def WritesS : Sp := { ReadsS with res := fun x _ => just (.tup [bv (isWrites x), bv (isWrites x && (kdAt x).bits)]) }
theorem WritesS_found : WritesS.spec.Found := fun _ _ _ _ h => ReadsS_found _ _ _ _ h
theorem kd0_at {n : Int} (h : kHas (.int .i64 n) = false) : kdAt n = kd0 := by
  have : (kdOf n).isSome = false := h
  unfold kdAt
  cases hk : kdOf n with
  | none => rfl
  | some k => rw [hk] at this; cases this
theorem kReads_at (n : Int) : kReads (.int .i64 n) = (kdAt n).reads := rfl
theorem kBits_at (n : Int) : kBits (.int .i64 n) = (kdAt n).bits := rfl
theorem kAll_at (n : Int) : kAll (.int .i64 n) = (kdAt n).all := rfl
theorem kMore_at (n : Int) : kMore (.int .i64 n) = (kdAt n).more := rfl
set_option maxRecDepth 100000 in
theorem reads04_nf (n : Int) : (fnV Try.prog Γ9 (fun (x : Code) (x_1 : AS) => none) Try.f15 [iv n] [] (Sp.good ReadsS n)) = (True ∧
  ∀ (x : Unit),
    let q := AV.val (Value.bool (kReads (Value.int IntKind.i64 n))) = AV.val (Value.bool (isReads n));
    let q_1 := AV.val (Value.bool (isReads n && Kd.bits (kdAt n)));
    Bif (kReads (Value.int IntKind.i64 n)) (((q ∧ AV.val (Value.bool (kBits (Value.int IntKind.i64 n))) = q_1 ∧ True) ∧ True) ∧ True) (((q ∧ AV.val (Value.bool false) = q_1 ∧ True) ∧ True) ∧ True)) := by kernel_rfl
set_option maxHeartbeats 1000000 in
theorem reads_vc (n : Int) : FnV Try.prog Γ9 (fun _ _ => none) Try.f15 [iv n] [] (ReadsS.good n) := by
  refine FnV.of (reads04_nf _) ?_
  all_goals try simp only [Bif_need, Bif_True]
  all_goals try simp only [Bif_iff, eq_self, and_true, true_and, AV.val.injEq, AV.agg.injEq, AV.tup.injEq, AV.sl.injEq, AV.ptr.injEq, AV.mp.injEq, Value.int.injEq, Value.bool.injEq, Value.string.injEq, AO.cells.injEq, AO.arr.injEq, AO.mapc.injEq, List.cons.injEq, Col.bool.injEq, Col.int.injEq, Col.str.injEq, MCol.int.injEq, MCol.bool.injEq, MCol.str.injEq, decide_eq_true_eq, decide_eq_false_iff_not, Nat.zero_add, Nat.add_zero, implies_true, Bool.and_eq_true, inR_iff, List.drop_zero, List.take_nil, List.drop_nil, List.nil_append, Int.toNat_natCast, longEnough, colLen, Bool.not_true, Bool.not_false, Bool.true_or, Bool.or_eq_true, Bool.not_eq_true', Bool.not_eq_false', take_take_self, take_tab, one_col, tab_length, mix_length, List.length_take, Nat.min_eq_left, List.set_cons_zero, blt01, Bool.and_false, Bool.and_true, Bool.false_and, Bool.true_and, Bool.false_eq_true, Bool.true_eq_false, false_and, and_false, false_implies, kReads_at, kBits_at]
  all_goals repeat' (first | apply And.intro | intro (⟨k, c, r⟩ : Nat × Nat × Nat) | intro _)
  all_goals try dsimp only at *
  all_goals try omega
  all_goals first
    | rfl
    | (have h := kd0_at ‹_›; simp only [isReads, h]; rfl)
    | (simp [isReads, *]; done)
theorem reads_ok : CtOk Try.prog 15 ReadsS.ct := Sp.ok Γ9_ok hm Try.func15 ReadsS ReadsS_found (fun _ _ _ => none) (fun x _ => reads_vc x)
set_option maxRecDepth 100000 in
theorem writes04_nf (n : Int) : (fnV Try.prog Γ9 (fun (x : Code) (x_1 : AS) => none) Try.f16 [iv n] [] (Sp.good WritesS n)) = (let q := AV.val (Value.bool (isWrites n && Kd.bits (kdAt n)));
True ∧
  ∀ (x : Unit),
    let q_1 := AV.val (Value.bool (kBits (Value.int IntKind.i64 n))) = q ∧ True;
    let q_2 := AV.val (Value.bool (kAll (Value.int IntKind.i64 n))) = AV.val (Value.bool (isWrites n));
    Bif (decide (kMore (Value.int IntKind.i64 n) > 0)) (((AV.val (Value.bool true) = AV.val (Value.bool (isWrites n)) ∧ q_1) ∧ True) ∧ True) (Bif (kAll (Value.int IntKind.i64 n)) (((q_2 ∧ q_1) ∧ True) ∧ True) (((q_2 ∧ AV.val (Value.bool false) = q ∧ True) ∧ True) ∧ True))) := by kernel_rfl
set_option maxHeartbeats 1000000 in
theorem writes_vc (n : Int) : FnV Try.prog Γ9 (fun _ _ => none) Try.f16 [iv n] [] (WritesS.good n) := by
  refine FnV.of (writes04_nf _) ?_
  all_goals try simp only [Bif_need, Bif_True]
  all_goals try simp only [Bif_iff, eq_self, and_true, true_and, AV.val.injEq, AV.agg.injEq, AV.tup.injEq, AV.sl.injEq, AV.ptr.injEq, AV.mp.injEq, Value.int.injEq, Value.bool.injEq, Value.string.injEq, AO.cells.injEq, AO.arr.injEq, AO.mapc.injEq, List.cons.injEq, Col.bool.injEq, Col.int.injEq, Col.str.injEq, MCol.int.injEq, MCol.bool.injEq, MCol.str.injEq, decide_eq_true_eq, decide_eq_false_iff_not, Nat.zero_add, Nat.add_zero, implies_true, Bool.and_eq_true, inR_iff, List.drop_zero, List.take_nil, List.drop_nil, List.nil_append, Int.toNat_natCast, longEnough, colLen, Bool.not_true, Bool.not_false, Bool.true_or, Bool.or_eq_true, Bool.not_eq_true', Bool.not_eq_false', take_take_self, take_tab, one_col, tab_length, mix_length, List.length_take, Nat.min_eq_left, List.set_cons_zero, blt01, Bool.and_false, Bool.and_true, Bool.false_and, Bool.true_and, Bool.false_eq_true, Bool.true_eq_false, false_and, and_false, false_implies, kReads_at, kBits_at, kAll_at, kMore_at]
  all_goals repeat' (first | apply And.intro | intro (⟨k, c, r⟩ : Nat × Nat × Nat) | intro _)
  all_goals try dsimp only at *
  all_goals try omega
  all_goals first
    | rfl
    | (have h := kd0_at ‹_›; simp only [isWrites, h]; rfl)
    | (have h : (kdAt n).more > 0 := of_decide_eq_true ‹_›; have hw : isWrites n = true := by simp [isWrites, h]
       simp only [hw, Bool.true_and]; done)
    | (have h : ¬ (kdAt n).more > 0 := of_decide_eq_false ‹_›; have hw : isWrites n = (kdAt n).all := by simp [isWrites, h]
       simp only [hw, *, Bool.true_and, Bool.false_and]; done)
theorem writes_ok : CtOk Try.prog 16 WritesS.ct := Sp.ok Γ9_ok hm Try.func16 WritesS WritesS_found (fun _ _ _ => none) (fun x _ => writes_vc x)
noncomputable def Γ10 : Cts := ((Γ9.add 12 (autoCt Try.prog Γ9 Try.f12)).add 15 ReadsS.ct).add 16 WritesS.ct
theorem Γ10_ok : CtsOk Try.prog Γ10 := ((Γ9_ok.add (autoCt_ok Γ9_ok hm Try.func12) Try.func12 (by kernel_rfl) (by kernel_rfl)).add reads_ok Try.func15 (by kernel_rfl) (by kernel_rfl)).add writes_ok Try.func16 (by kernel_rfl) (by kernel_rfl)
def HeadS : Sp where
  X := Unit
  Y := fun _ => Unit
  y0 := fun _ => ()
  pat := fun x => ([], [])
  fnd := fun args H => match args with | [] => some ((), []) | _ => none
  pre := fun _ => True
  res := fun x _ => just (bv true)
  pick := fun _ _ _ => some ((), [])
theorem HeadS_found : HeadS.spec.Found := by
  intro args H x σ h
  simp only [Sp.spec, HeadS] at h
  split at h
  rotate_left
  · cases h
  cases h
  exact ⟨rfl, fun i ao hi => nomatch (show (none : Option (Option AO)) = some (some ao) from hi)⟩
theorem rq_lit {fc addr qty to : Int} {v : SS} (h1 : -9223372036854775808 ≤ fc ∧ fc ≤ 9223372036854775807) (h2 : -9223372036854775808 ≤ addr ∧ addr ≤ 9223372036854775807) (h3 : -9223372036854775808 ≤ qty ∧ qty ≤ 9223372036854775807)
    (h4 : -9223372036854775808 ≤ to ∧ to ≤ 9223372036854775807) (h5 : WOk v) : RqOk ⟨fc, addr, qty, v, to⟩ := ⟨h1, h2, h3, h4, h5⟩
set_option maxRecDepth 100000 in
theorem head4_nf : (fnV Try.prog Γ10 (fun (x : Code) (x_1 : AS) => none) Try.f8 [] [] (Sp.good HeadS ())) = (let q := SS.mk true true 0 0 0 0 0 [];
RqOk (Rq.mk 3 1 2 q 0) ∧
  ∀ (x : Nat × Nat),
    BOk (SS.mk false true 0 8 8 8 8 [15, 0, 19, 0, 10, 2, 205, 1]) ∧
      ∀ (x : Nat × Nat),
        BOk (SS.mk false true 0 1 1 1 1 [7]) ∧
          ∀ (x_1 : Nat × Nat),
            BOk (SS.mk false true 0 5 5 5 5 [3, 0, 1, 0, 126]) ∧
              ∀ (x_2 : Nat × Nat),
                BOk (SS.mk false true 0 5 5 5 5 [3, 255, 255, 0, 2]) ∧
                  ∀ (x_3 : Nat × Nat),
                    True ∧
                      ∀ (x_4 : Unit),
                        True ∧
                          ∀ (x_5 : Unit),
                            let q_1 := [1, 0, 1, 1, 0, 0, 1, 1, 1, 0];
                            let q_2 := 10 + Prod.fst x;
                            (WOk (SS.mk false true 0 10 q_2 (q_2 + Prod.snd x) 10 q_1) ∧ WOk (SS.mk false true 0 10 10 10 10 q_1)) ∧
                              ∀ (x_6 : Unit),
                                let q_3 := q_2;
                                RqOk (Rq.mk 15 19 10 (SS.mk false true 0 10 q_3 (q_3 + Prod.snd x) 10 q_1) 0) ∧ ∀ (x : Unit), RqOk (Rq.mk 0 0 0 q 0) ∧ ∀ (x : Unit), (AV.val (Value.bool true) = AV.val (Value.bool true) ∧ True) ∧ True) := by kernel_rfl
set_option maxHeartbeats 1000000 in
theorem head_vc : FnV Try.prog Γ10 (fun _ _ => none) Try.f8 [] [] (HeadS.good ()) := by
  refine FnV.of (head4_nf) ?_
  all_goals try simp only [Bif_need, Bif_True]
  all_goals try simp only [Bif_iff, eq_self, and_true, true_and, AV.val.injEq, AV.agg.injEq, AV.tup.injEq, AV.sl.injEq, AV.ptr.injEq, AV.mp.injEq, Value.int.injEq, Value.bool.injEq, Value.string.injEq, AO.cells.injEq, AO.arr.injEq, AO.mapc.injEq, List.cons.injEq, Col.bool.injEq, Col.int.injEq, Col.str.injEq, MCol.int.injEq, MCol.bool.injEq, MCol.str.injEq, decide_eq_true_eq, decide_eq_false_iff_not, Nat.zero_add, Nat.add_zero, implies_true, Bool.and_eq_true, inR_iff, List.drop_zero, List.take_nil, List.drop_nil, List.nil_append, Int.toNat_natCast, longEnough, colLen, Bool.not_true, Bool.not_false, Bool.true_or, Bool.or_eq_true, Bool.not_eq_true', Bool.not_eq_false', take_take_self, take_tab, one_col, tab_length, mix_length, List.length_take, Nat.min_eq_left, List.set_cons_zero, blt01, Bool.and_false, Bool.and_true, Bool.false_and, Bool.true_and, Bool.false_eq_true, Bool.true_eq_false, false_and, and_false, false_implies]
  all_goals repeat' (first | apply And.intro | intro (⟨k, c, r⟩ : Nat × Nat × Nat) | intro _)
  all_goals try dsimp only at *
  all_goals try omega
  all_goals first
    | exact newOk rfl (by decide) (by decide) (by decide)
    | exact newOk (c := 0) (r := 0) rfl (by decide) (by decide) (by decide)
    | exact rq_lit (by decide) (by decide) (by decide) (by decide) (newOk rfl (by decide) (by decide) (by decide))
    | exact rq_lit (by decide) (by decide) (by decide) (by decide) (newOk (c := 0) (r := 0) rfl (by decide) (by decide) (by decide))
theorem head_ok : CtOk Try.prog 8 HeadS.ct := Sp.ok Γ10_ok hm Try.func8 HeadS HeadS_found (fun _ _ _ => none) (fun _ _ => head_vc)
noncomputable def Γ11 : Cts := Γ10.add 8 HeadS.ct
theorem Γ11_ok : CtsOk Try.prog Γ11 := Γ10_ok.add head_ok Try.func8 (by kernel_rfl) (by kernel_rfl)
end Go.Wk.P04
