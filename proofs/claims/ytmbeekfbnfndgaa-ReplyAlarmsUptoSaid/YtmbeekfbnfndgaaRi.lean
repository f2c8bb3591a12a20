/-
  The document's Reads; the live question; under the rows' own bounds.
-/
import Derived.Test.YtmbeekfbnfndgaaRg
namespace Go.Wk.P05
open Go Go.Vs Go.Proofs Go.Wk.P04
set_option linter.unusedSimpArgs false
set_option linter.unusedVariables false
set_option maxRecDepth 10000

/-! the document's Reads; the live question -/
def RReadsS : Sp := { ReadsS with res := fun x _ => just (.tup [bv (isReads x), bv (rbits x)]) }
theorem RReadsS_found : RReadsS.spec.Found := fun _ _ _ _ h => ReadsS_found _ _ _ _ h
set_option maxRecDepth 100000 in
theorem rreads_nf (n : Int) : (fnV Try.prog Γl (fun (x : Code) (x_1 : AS) => none) Try.f14 [iv n] [] (Sp.good RReadsS n)) = (let q := ((AV.val (Value.bool true) = AV.val (Value.bool (isReads n)) ∧ AV.val (Value.bool (n == 2)) = AV.val (Value.bool (rbits n)) ∧ True) ∧ True) ∧ True; let q_1 := n == 2; Bif (n == 1) (((AV.val (Value.bool true) = AV.val (Value.bool (isReads n)) ∧ AV.val (Value.bool true) = AV.val (Value.bool (rbits n)) ∧ True) ∧ True) ∧ True) (Bif q_1 q (Bif (n == 3) q (Bif (n == 4) q (((AV.val (Value.bool (n == 23)) = AV.val (Value.bool (isReads n)) ∧ AV.val (Value.bool q_1) = AV.val (Value.bool (rbits n)) ∧ True) ∧ True) ∧ True))))) := by kernel_rfl
set_option maxHeartbeats 1000000 in
theorem rreads_vc (n : Int) : FnV Try.prog Γl (fun _ _ => none) Try.f14 [iv n] [] (RReadsS.good n) := by
  refine FnV.of (rreads_nf _) ?_
  rcases kcases n with h | h | h | h | h | h | h | h | h | h | ⟨h1, h2, h3, h4, h5, h6, h7, h8, h9, h10⟩
  iterate 10 (subst h; simp [Bif_iff, Bif_need, rbits, isReads, kdAt, kdOf])
  have e1 : kdAt n = kd0 := by simp only [kdAt, kdOf, h1, h2, h3, h4, h5, h6, h7, h8, h9, h10, if_false, Option.getD_none]
  have e2 : isReads n = false := by rw [isReads, e1]; rfl
  have e3 : rbits n = false := by rw [rbits, e2]; rfl
  simp [e2, e3, Bif_iff, Bif_need, h1, h2, h3, h4, h10]
theorem rreads_ok : CtOk Try.prog 14 RReadsS.ct := Sp.ok Γl_ok hm Try.func14 RReadsS RReadsS_found (fun _ _ _ => none) (fun x _ => rreads_vc x)
noncomputable def Γn : Cts := ((Γl.add 16 (AlarmS.ct.nil 5 .u8)).add 14 RReadsS.ct).add 11 (RgetS.ct.nil 44 .u16)
theorem Γn_ok : CtsOk Try.prog Γn := ((Γl_ok.add (alarm_ok.nil _ _) Try.func16 (by kernel_rfl) (by kernel_rfl)).add rreads_ok Try.func14 (by kernel_rfl) (by kernel_rfl)).add (rget_ok.nil _ _) Try.func11 (by kernel_rfl) (by kernel_rfl)
noncomputable def Γo : Cts := (Γn.add 12 (autoCt Try.prog Γn Try.f12)).add 8 (autoCt Try.prog Γn Try.f8)
theorem Γo_ok : CtsOk Try.prog Γo := (Γn_ok.add (autoCt_ok Γn_ok hm Try.func12) Try.func12 (by kernel_rfl) (by kernel_rfl)).add (autoCt_ok Γn_ok hm Try.func8) Try.func8 (by kernel_rfl) (by kernel_rfl)
def Head5S : Sp where
  X := Unit
  Y := fun _ => Unit
  y0 := fun _ => ()
  pat := fun x => ([], [])
  fnd := fun args H => match args with | [] => some ((), []) | _ => none
  pre := fun _ => True
  res := fun x _ => just (bv true)
  pick := fun _ _ _ => some ((), [])
theorem Head5S_found : Head5S.spec.Found := by
  intro args H x σ h
  simp only [Sp.spec, Head5S] at h
  split at h
  rotate_left
  · cases h
  cases h
  exact ⟨rfl, fun i ao hi => nomatch (show (none : Option (Option AO)) = some (some ao) from hi)⟩
theorem rp_lit {code : Int} {v : SS} (h1 : -9223372036854775808 ≤ code ∧ code ≤ 9223372036854775807) (h5 : WOk v) : RpOk ⟨code, v⟩ := ⟨h1, h5⟩
set_option maxRecDepth 100000 in
theorem head5_nf : (fnV Try.prog Γo (fun (x : Code) (x_1 : AS) => none) Try.f7 [] [] (Sp.good Head5S ())) = (let q := SS.mk true true 0 0 0 0 0 []; (RqOk (Rq.mk 3 0 1 q 0) ∧ RpOk (Rp.mk 0 (SS.mk false true 0 1 1 1 1 [7]))) ∧ ∀ (x : Nat × Nat), let q := q; (RqOk (Rq.mk 3 0 1 q 0) ∧ BOk (SS.mk false true 0 2 2 2 2 [131, 2])) ∧ ∀ (x : Nat × Nat), let q := q; (RqOk (Rq.mk 1 0 3 q 0) ∧ BOk (SS.mk false true 0 3 3 3 3 [1, 1, 5])) ∧ ∀ (x : Nat × Nat), let q := q; (RqOk (Rq.mk 1 0 3 q 0) ∧ BOk (SS.mk false true 0 3 3 3 3 [1, 1, 13])) ∧ ∀ (x_1 : Nat × Nat), let q_1 := [1]; BOk (SS.mk false true 0 2 2 2 2 (7 :: q_1)) ∧ ∀ (x_2 : Nat × Nat), let q_2 := 1 :: 0 :: q_1; let q_3 := 3 + Prod.fst x; (WOk (SS.mk false true 0 3 q_3 (q_3 + Prod.snd x) 3 q_2) ∧ WOk (SS.mk false true 0 3 3 3 3 q_2)) ∧ ∀ (x : Unit), let q := q; (RqOk (Rq.mk 3 0 1 q 0) ∧ RpOk (Rp.mk 4 q)) ∧ ∀ (x : Unit), let q := q; (RqOk (Rq.mk 3 0 1 q 0) ∧ RpOk (Rp.mk 0 q)) ∧ ∀ (x : Unit), (AV.val (Value.bool true) = AV.val (Value.bool true) ∧ True) ∧ True) := by kernel_rfl
set_option maxHeartbeats 1000000 in
theorem head5_vc : FnV Try.prog Γo (fun _ _ => none) Try.f7 [] [] (Head5S.good ()) := by
  refine FnV.of (head5_nf) ?_
  all_goals try simp only [Bif_need, Bif_True]
  all_goals try simp only [Bif_iff, eq_self, and_true, true_and, AV.val.injEq, AV.agg.injEq, AV.tup.injEq, AV.sl.injEq, AV.ptr.injEq, AV.mp.injEq, Value.int.injEq, Value.bool.injEq, Value.string.injEq, AO.cells.injEq, AO.arr.injEq, AO.mapc.injEq, List.cons.injEq, Col.bool.injEq, Col.int.injEq, Col.str.injEq, MCol.int.injEq, MCol.bool.injEq, MCol.str.injEq, decide_eq_true_eq, decide_eq_false_iff_not, Nat.zero_add, Nat.add_zero, implies_true, Bool.and_eq_true, inR_iff, List.drop_zero, List.take_nil, List.drop_nil, List.nil_append, Int.toNat_natCast, longEnough, colLen, Bool.not_true, Bool.not_false, Bool.true_or, Bool.or_eq_true, Bool.not_eq_true', Bool.not_eq_false', take_take_self, take_tab, one_col, tab_length, mix_length, List.length_take, Nat.min_eq_left, List.set_cons_zero, blt01, Bool.and_false, Bool.and_true, Bool.false_and, Bool.true_and, Bool.false_eq_true, Bool.true_eq_false, false_and, and_false, false_implies]
  all_goals repeat' (first | apply And.intro | intro (⟨k, c, r⟩ : Nat × Nat × Nat) | intro _)
  all_goals try dsimp only at *
  all_goals try omega
  all_goals first
    | exact newOk rfl (by decide) (by decide) (by decide)
    | exact newOk (c := 0) (r := 0) rfl (by decide) (by decide) (by decide)
    | exact rq_lit (by decide) (by decide) (by decide) (by decide) (newOk rfl (by decide) (by decide) (by decide))
    | exact rq_lit (by decide) (by decide) (by decide) (by decide) (newOk (c := 0) (r := 0) rfl (by decide) (by decide) (by decide))
    | exact rp_lit (by decide) (newOk rfl (by decide) (by decide) (by decide))
    | exact rp_lit (by decide) (newOk (c := 0) (r := 0) rfl (by decide) (by decide) (by decide))
theorem head5_ok : CtOk Try.prog 7 Head5S.ct := Sp.ok Γo_ok hm Try.func7 Head5S Head5S_found (fun _ _ _ => none) (fun _ _ => head5_vc)
noncomputable def Γp : Cts := Γo.add 7 Head5S.ct
theorem Γp_ok : CtsOk Try.prog Γp := Γo_ok.add head5_ok Try.func7 (by kernel_rfl) (by kernel_rfl)
end Go.Wk.P05
