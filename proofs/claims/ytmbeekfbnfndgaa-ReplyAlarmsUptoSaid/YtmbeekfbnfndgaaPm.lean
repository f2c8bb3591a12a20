/-
  Reads, Writes, the live question; under the rows' own bounds.
-/
import Derived.Test.YtmbeekfbnfndgaaPl
import Derived.Test.YtmbeekfbnfndgaaKc
namespace Go.Wk.P04
open Go Go.Vs Go.Proofs
set_option linter.unusedSimpArgs false
set_option linter.unusedVariables false
set_option maxRecDepth 10000

theorem rq_lit {fc addr qty to : Int} {v : SS} (h1 : -9223372036854775808 ≤ fc ∧ fc ≤ 9223372036854775807) (h2 : -9223372036854775808 ≤ addr ∧ addr ≤ 9223372036854775807) (h3 : -9223372036854775808 ≤ qty ∧ qty ≤ 9223372036854775807)
    (h4 : -9223372036854775808 ≤ to ∧ to ≤ 9223372036854775807) (h5 : WOk v) : RqOk ⟨fc, addr, qty, v, to⟩ := ⟨h1, h2, h3, h4, h5⟩
noncomputable def Γ8a : Cts := (Γ6.add 34 PutS.ct).add 35 UnbitsS.ct
theorem Γ8a_ok : CtsOk Try.prog Γ8a := (Γ6_ok.add put_ok Try.func34 (by kernel_rfl) (by kernel_rfl)).add unbits_ok Try.func35 (by kernel_rfl) (by kernel_rfl)
noncomputable def Γ8b : Cts := (Γ8a.add 34 (PutS.ct.nil 44 .u16)).add 29 (RightS.ct.nil 44 .u16)
theorem Γ8b_ok : CtsOk Try.prog Γ8b := (Γ8a_ok.add (put_ok.nil _ _) Try.func34 (by kernel_rfl) (by kernel_rfl)).add (right_ok.nil _ _) Try.func29 (by kernel_rfl) (by kernel_rfl)
noncomputable def Γ9 : Cts := Γ8b.add 15 (SameVS.ct.nil 44 .u16)
theorem Γ9_ok : CtsOk Try.prog Γ9 := Γ8b_ok.add (sameV_ok.nil _ _) Try.func15 (by kernel_rfl) (by kernel_rfl)
def isReads (n : Int) : Bool := (kdAt n).reads
def isWrites (n : Int) : Bool := decide ((kdAt n).more > 0) || (kdAt n).all
def ReadsS : Sp where
  X := Int
  Y := fun _ => Unit
  y0 := fun _ => ()
  pat := fun x => ([iv x], [])
  fnd := fun args H => match args with | [.val (.int .i64 n)] => some (n, []) | _ => none
  pre := fun _ => True
  res := fun x _ => just (.tup [bv (isReads x), bv (isReads x && (kdAt x).bits)])
  pick := fun _ _ _ => some ((), [])
theorem ReadsS_found : ReadsS.spec.Found := by
  intro args H x σ h
  simp only [Sp.spec, ReadsS] at h
  split at h
  rotate_left
  · cases h
  cases h
  exact ⟨rfl, fun i ao hi => nomatch (show (none : Option (Option AO)) = some (some ao) from hi)⟩
def WritesS : Sp := { ReadsS with res := fun x _ => just (.tup [bv (isWrites x), bv (isWrites x && (kdAt x).bits)]) }
theorem WritesS_found : WritesS.spec.Found := fun _ _ _ _ h => ReadsS_found _ _ _ _ h
theorem kd0_at {n : Int} (h : kHas (.int .i64 n) = false) : kdAt n = kd0 := by
  have : (kdOf n).isSome = false := h
  unfold kdAt
  cases hk : kdOf n with
  | none => rfl
  | some k => rw [hk] at this; cases this
theorem kReads_at (n : Int) : kReads (.int .i64 n) = (kdAt n).reads := rfl
theorem kBits_at (n : Int) : kBits (.int .i64 n) = (kdAt n).bits := rfl
theorem kAll_at (n : Int) : kAll (.int .i64 n) = (kdAt n).all := rfl
theorem kMore_at (n : Int) : kMore (.int .i64 n) = (kdAt n).more := rfl
set_option maxRecDepth 100000 in
theorem reads04_nf (n : Int) : (fnV Try.prog Γ9 (fun (x : Code) (x_1 : AS) => none) Try.f28 [iv n] [] (Sp.good ReadsS n)) = (True ∧ ∀ (x : Unit), let q := AV.val (Value.bool (kReads (Value.int IntKind.i64 n))) = AV.val (Value.bool (isReads n)); let q_1 := AV.val (Value.bool (isReads n && Kd.bits (kdAt n))); Bif (kReads (Value.int IntKind.i64 n)) (((q ∧ AV.val (Value.bool (kBits (Value.int IntKind.i64 n))) = q_1 ∧ True) ∧ True) ∧ True) (((q ∧ AV.val (Value.bool false) = q_1 ∧ True) ∧ True) ∧ True)) := by kernel_rfl
set_option maxHeartbeats 1000000 in
theorem reads_vc (n : Int) : FnV Try.prog Γ9 (fun _ _ => none) Try.f28 [iv n] [] (ReadsS.good n) := by
  refine FnV.of (reads04_nf _) ?_
  all_goals try simp only [Bif_need, Bif_True]
  all_goals try simp only [Bif_iff, eq_self, and_true, true_and, AV.val.injEq, AV.agg.injEq, AV.tup.injEq, AV.sl.injEq, AV.ptr.injEq, AV.mp.injEq, Value.int.injEq, Value.bool.injEq, Value.string.injEq, AO.cells.injEq, AO.arr.injEq, AO.mapc.injEq, List.cons.injEq, Col.bool.injEq, Col.int.injEq, Col.str.injEq, MCol.int.injEq, MCol.bool.injEq, MCol.str.injEq, decide_eq_true_eq, decide_eq_false_iff_not, Nat.zero_add, Nat.add_zero, implies_true, Bool.and_eq_true, inR_iff, List.drop_zero, List.take_nil, List.drop_nil, List.nil_append, Int.toNat_natCast, longEnough, colLen, Bool.not_true, Bool.not_false, Bool.true_or, Bool.or_eq_true, Bool.not_eq_true', Bool.not_eq_false', take_take_self, take_tab, one_col, tab_length, mix_length, List.length_take, Nat.min_eq_left, List.set_cons_zero, blt01, Bool.and_false, Bool.and_true, Bool.false_and, Bool.true_and, Bool.false_eq_true, Bool.true_eq_false, false_and, and_false, false_implies, kReads_at, kBits_at]
  all_goals repeat' (first | apply And.intro | intro (⟨k, c, r⟩ : Nat × Nat × Nat) | intro _)
  all_goals try dsimp only at *
  all_goals try omega
  all_goals first
    | rfl
    | (have h := kd0_at ‹_›; simp only [isReads, h]; rfl)
    | (simp [isReads, *]; done)
theorem reads_ok : CtOk Try.prog 28 ReadsS.ct := Sp.ok Γ9_ok hm Try.func28 ReadsS ReadsS_found (fun _ _ _ => none) (fun x _ => reads_vc x)
noncomputable def Γ10a : Cts := Γ9.add 28 ReadsS.ct
theorem Γ10a_ok : CtsOk Try.prog Γ10a := Γ9_ok.add reads_ok Try.func28 (by kernel_rfl) (by kernel_rfl)
noncomputable def Γ10 : Cts := Γ10a
theorem Γ10_ok : CtsOk Try.prog Γ10 := Γ10a_ok
end Go.Wk.P04
