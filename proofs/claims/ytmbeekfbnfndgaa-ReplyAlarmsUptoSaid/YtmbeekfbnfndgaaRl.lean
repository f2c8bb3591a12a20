/-
  The document's Right; under the rows' own bounds.
-/
import Derived.Test.YtmbeekfbnfndgaaRh
import Derived.Test.YtmbeekfbnfndgaaRk
namespace Go.Wk.P05
open Go Go.Vs Go.Proofs Go.Wk.P04
set_option linter.unusedSimpArgs false
set_option linter.unusedVariables false
set_option maxRecDepth 10000

theorem shaper_ok : CtOk Try.prog 23 ShapeRS.ct := Sp.ok Γm_ok hm Try.func23 ShapeRS ShapeRS_found (fun _ _ _ => none) (fun x h => shaper_vc x h)
noncomputable def Γq : Cts := ((Γp.add 23 ShapeRS.ct).add 39 (autoCt Try.prog Γnone Try.f39)).add 24 (autoCt Try.prog Γm Try.f24)
theorem Γq_ok : CtsOk Try.prog Γq := ((Γp_ok.add shaper_ok Try.func23 (by kernel_rfl) (by kernel_rfl)).add (autoCt_ok CtsOk.none hm Try.func39) Try.func39 (by kernel_rfl) (by kernel_rfl)).add (autoCt_ok Γm_ok hm Try.func24) Try.func24 (by kernel_rfl) (by kernel_rfl)
set_option maxRecDepth 100000 in
theorem rightr_nf (q : Rq) : (fnV Try.prog Γq (fun (x : Code) (x_1 : AS) => none) Try.f13 [rqV q 0] [some (wO (Rq.v q))] (Sp.good RightS q)) = (let q_1 := Bif (AO.deadB (wO (Rq.v q))) True (AO.arr (SS.rw (Rq.v q)) 44 (SS.room (Rq.v q)) (SS.m (Rq.v q)) [Col.int IntKind.u16 (SS.l (Rq.v q))] = AO.arr (SS.rw (Rq.v q)) 44 (SS.room (Rq.v q)) (SS.m (Rq.v q)) [Col.int IntKind.u16 (SS.l (Rq.v q))]) ∧ True; let q_2 := IntKind.wrap IntKind.i64 (Rq.to q + (↑(SS.n (Rq.v q)) : Int)); let q_3 := IntKind.wrap IntKind.i64 (Rq.addr q + 1); let q_4 := Rq.fc q != 23; let q_5 := AV.val (Value.bool false) = AV.val (Value.bool (right q)) ∧ True; let q_6 := AV.val (Value.bool true) = AV.val (Value.bool (right q)) ∧ True; RqOk (Rq.mk (Rq.fc q) (Rq.addr q) (Rq.qty q) (Rq.v q) (Rq.to q)) ∧ ∀ (x : Unit), let q_7 := Bif (decide (q_3 ≤ 65536)) (Bif q_4 (q_6 ∧ q_1) ((AV.val (Value.bool (decide (q_2 ≤ 65536))) = AV.val (Value.bool (right q)) ∧ True) ∧ q_1)) (q_5 ∧ q_1); let q_8 := q_1; let q_9 := q_2; let q_10 := IntKind.wrap IntKind.i64 (Rq.addr q + Rq.qty q); let q_11 := q_5 ∧ q_8; Bif (Option.isSome (kdOf (Rq.fc q)) && shaped (kdAt (Rq.fc q)) q) (Bif (Rq.fc q == 5) q_7 (Bif (Rq.fc q == 6) q_7 (Bif (Rq.fc q == 22) q_7 (Bif (decide (q_10 ≤ 65536)) (Bif q_4 (q_6 ∧ q_8) ((AV.val (Value.bool (decide (q_9 ≤ 65536))) = AV.val (Value.bool (right q)) ∧ True) ∧ q_8)) q_11)))) q_11) := by kernel_rfl
set_option maxHeartbeats 1000000 in
theorem rightr_vc (q : Rq) (hq : RqOk q) : FnV Try.prog Γq (fun _ _ => none) Try.f13 [rqV q 0] [some (wO q.v)] (RightS.good q) := by
  have hv := hq.v.n
  refine FnV.of (rightr_nf _) ?_
  cases hs : ((kdOf q.fc).isSome && shaped (kdAt q.fc) q) with
  | false =>
    have hr : right q = false := by
      simp only [right]
      rw [← Bool.and_assoc, hs, Bool.false_and]
    have hs' : ((kdOf q.fc).isSome && shaped (kdAt q.fc) ⟨q.fc, q.addr, q.qty, q.v, q.to⟩) = false := hs
    simp only [hr, hs', Bif_iff]
    simp [hq]
  | true =>
    have hs' : ((kdOf q.fc).isSome && shaped (kdAt q.fc) ⟨q.fc, q.addr, q.qty, q.v, q.to⟩) = true := hs
    have hr : right q = ends (kdAt q.fc) q := by
      simp only [right]
      rw [← Bool.and_assoc, hs, Bool.true_and]
    simp only [Bool.and_eq_true] at hs
    have rn := right_nums hs.2
    have hl := shaped_low hs.2
    obtain ⟨⟨g1, g2⟩, ⟨g3, g4⟩, ⟨g5, g6⟩⟩ := hl
    have w1 : IntKind.i64.wrap (q.addr + 1) = q.addr + 1 := IntWalk.i64_in _ (by omega)
    have w2 : IntKind.i64.wrap (q.addr + q.qty) = q.addr + q.qty := IntWalk.i64_in _ (by omega)
    have w3 : IntKind.i64.wrap (q.to + (q.v.n : Int)) = q.to + (q.v.n : Int) := IntWalk.i64_in _ (by omega)
    simp only [hr, hs', w1, w2, w3]
    clear hr hs' w1 w2 w3
    have hq' : RqOk ⟨q.fc, q.addr, q.qty, q.v, q.to⟩ := hq
    obtain ⟨fc, addr, qty, v, to⟩ := q
    dsimp only at *
    rcases kcases fc with h | h | h | h | h | h | h | h | h | h | ⟨h1, h2, h3, h4, h5, h6, h7, h8, h9, h10⟩
    iterate 10
      · subst h
        simp [kdAt, kdOf] at rn
        simp [Bif_iff, hq', ends, top1, kdAt, kdOf]
        try omega
    · have hk : (kdOf fc).isSome = false := by simp only [kdOf, h1, h2, h3, h4, h5, h6, h7, h8, h9, h10, if_false]; rfl
      rw [hk] at hs; cases hs.1
theorem rightr_ok : CtOk Try.prog 13 RightS.ct := Sp.ok Γq_ok hm Try.func13 RightS RightS_found (fun _ _ _ => none) (fun x h => rightr_vc x h)
noncomputable def Γr : Cts := Γq.add 13 RightS.ct
theorem Γr_ok : CtsOk Try.prog Γr := Γq_ok.add rightr_ok Try.func13 (by kernel_rfl) (by kernel_rfl)
end Go.Wk.P05
