/-
  Put; under the rows' own bounds.
-/
import Derived.Test.YtmbeekfbnfndgaaRc
namespace Go.Wk.P05
open Go Go.Vs Go.Proofs Go.Wk.P04
set_option linter.unusedSimpArgs false
set_option linter.unusedVariables false
set_option maxRecDepth 10000

/-! Put, Alarm -/
noncomputable def Γi : Cts := (Γh.add 20 PutAS.ct).add 10 (RrightS.ct.nil 44 .u16)
theorem Γi_ok : CtsOk Try.prog Γi := (Γh_ok.add puta_ok Try.func20 (by kernel_rfl) (by kernel_rfl)).add (rright_ok.nil _ _) Try.func10 (by kernel_rfl) (by kernel_rfl)
def rpL' (q : Rq) (p : Rp) : List Int := bif rright q p then rpL q p else []
def rpN' (q : Rq) (p : Rp) : Nat := bif rright q p then rpN q p else 0
def RputS : Sp where
  X := Rq × Rp
  Y := fun _ => Nat × Nat
  y0 := fun _ => (0, 0)
  pat := fun x => ([rqV x.1 0, rpV x.2 1], [some (wO x.1.v), some (wO x.2.v)])
  fnd := fndQP
  pre := fun x => RqOk x.1 ∧ RpOk x.2
  res := fun x y => ⟨.sl (!rright x.1 x.2) 2 1 0 (rpN' x.1 x.2) ((rpL' x.1 x.2).length + (roomIf (rright x.1 x.2) y).1), [], [ownO (rpL' x.1 x.2).length (roomIf (rright x.1 x.2) y) (rpL' x.1 x.2)]⟩
  pick := fun x v H => (pkO (rpL' x.1 x.2).length v H).map fun (y, b) => (y, [0, 1, b])
theorem RputS_found : RputS.spec.Found := fun _ _ _ _ h => fndQP_found h
theorem anyN_dec (b : Bool) : decide (b = true) = b := by cases b <;> rfl
set_option maxRecDepth 100000 in
theorem rput_nf (q : Rq) (p : Rp) : (fnV Try.prog Γi (fun (x : Code) (x_1 : AS) => none) Try.f9 [rqV q 0, rpV p 1] [some (wO (Rq.v q)), some (wO (Rp.v p))] (Sp.good RputS (q, p))) = (True ∧ ∀ (x : Unit), let q_1 := RqOk (Rq.mk (Rq.fc q) (Rq.addr q) (Rq.qty q) (Rq.v q) (Rq.to q)); q_1 ∧ ∀ (x : Unit), let q_2 := roomIf (rright q p) (0 - List.length (rpL' q p), 0); let q_3 := AO.arr (SS.rw (Rq.v q)) 44 (SS.room (Rq.v q)) (SS.m (Rq.v q)) [Col.int IntKind.u16 (SS.l (Rq.v q))]; let q_4 := AO.arr (SS.rw (Rp.v p)) 44 (SS.room (Rp.v p)) (SS.m (Rp.v p)) [Col.int IntKind.u16 (SS.l (Rp.v p))]; let q_5 := isReads (Rq.fc q) = isReads (Rq.fc q) ∧ (isReads (Rq.fc q) && Kd.bits (kdAt (Rq.fc q))) = rbits (Rq.fc q); let q_6 := rpN' q p = 0; let q_7 := (!rright q p) = true; Bif (!right q) (((q_7 ∧ q_6 ∧ List.length (rpL' q p) + Prod.fst q_2 = 0) ∧ True) ∧ Bif (AO.deadB (wO (Rq.v q))) True (q_3 = q_3) ∧ Bif (AO.deadB (wO (Rp.v p))) True (q_4 = q_4) ∧ Bif (AO.deadB (ownO (List.length (rpL' q p)) q_2 (rpL' q p))) True False ∧ True) ((RpOk (Rp.mk (Rp.code p) (Rp.v p)) ∧ q_5) ∧ ∀ (x : Unit), let q_8 := q_4; let q_9 := q_3; let q_10 := q_2; Bif (!may q p) (((q_7 ∧ q_6 ∧ List.length (rpL' q p) + Prod.fst q_10 = 0) ∧ True) ∧ Bif (AO.deadB (wO (Rq.v q))) True (q_9 = q_9) ∧ Bif (AO.deadB (wO (Rp.v p))) True (q_8 = q_8) ∧ Bif (AO.deadB (ownO (List.length (rpL' q p)) q_10 (rpL' q p))) True False ∧ True) ((q_1 ∧ RpOk (Rp.mk (Rp.code p) (Rp.v p)) ∧ rright q p = true ∧ q_5) ∧ ∀ (x : Nat × Nat), let q_11 := roomIf (rright q p) (List.length (rpL q p) + Prod.fst x - List.length (rpL' q p), List.length (rpL q p) + Prod.fst x + Prod.snd x - (List.length (rpL q p) + Prod.fst x)); let q_12 := q_8; let q_13 := q_9; let q_14 := List.length (rpL q p) + Prod.fst x; let q_15 := List.length (rpL' q p) + Prod.fst q_11; (AV.sl false 5 1 0 (rpN q p) q_14 = AV.sl (!rright q p) 5 1 0 (rpN' q p) q_15 ∧ True) ∧ Bif (AO.deadB (wO (Rq.v q))) True (q_13 = q_13) ∧ Bif (AO.deadB (wO (Rp.v p))) True (q_12 = q_12) ∧ Bif (AO.deadB (ownO (List.length (rpL' q p)) q_11 (rpL' q p))) True (AO.arr true 5 (q_14 + Prod.snd x) (List.length (rpL q p)) [Col.int IntKind.u8 (rpL q p)] = AO.arr true 5 (q_15 + Prod.snd q_11) (List.length (rpL' q p)) [Col.int IntKind.u8 (rpL' q p)]) ∧ True))) := by kernel_rfl
set_option maxHeartbeats 1000000 in
theorem rput_vc (q : Rq) (p : Rp) (hq : RqOk q) (hp : RpOk p) : FnV Try.prog Γi (fun _ _ => none) Try.f9 [rqV q 0, rpV p 1] [some (wO q.v), some (wO p.v)] (RputS.good (q, p)) := by
  have hp' := hp
  obtain ⟨c1, c2⟩ := hp
  refine FnV.of (rput_nf _ _) ?_
  have r1 : right q = false → rright q p = false := fun h => by simp only [rright, h, Bool.false_and]
  have r2 : may q p = false → rright q p = false := fun h => by simp only [rright, h, Bool.and_false]
  have r3 : right q = true → may q p = true → rright q p = true := fun h h' => by simp only [rright, h, h', Bool.and_self]
  have n1 : rright q p = false → rpN' q p = 0 ∧ rpL' q p = [] := fun h => by simp only [rpN', rpL', h, cond_false, and_self]
  have n2 : rright q p = true → rpN' q p = rpN q p ∧ rpL' q p = rpL q p := fun h => by simp only [rpN', rpL', h, cond_true, and_self]
  all_goals try simp only [Bif_need, Bif_True]
  all_goals try simp only [Bif_iff, eq_self, and_true, true_and, AV.val.injEq, AV.agg.injEq, AV.tup.injEq, AV.sl.injEq, AV.ptr.injEq, AV.mp.injEq, Value.int.injEq, Value.bool.injEq, Value.string.injEq, AO.cells.injEq, AO.arr.injEq, AO.mapc.injEq, List.cons.injEq, Col.bool.injEq, Col.int.injEq, Col.str.injEq, MCol.int.injEq, MCol.bool.injEq, MCol.str.injEq, decide_eq_true_eq, decide_eq_false_iff_not, Nat.zero_add, Nat.add_zero, implies_true, Bool.and_eq_true, inR_iff, List.drop_zero, List.take_nil, List.drop_nil, List.nil_append, Int.toNat_natCast, longEnough, colLen, Bool.not_true, Bool.not_false, Bool.true_or, Bool.or_eq_true, Bool.not_eq_true', Bool.not_eq_false', take_take_self, take_tab, one_col, tab_length, mix_length, List.length_take, Nat.min_eq_left, List.set_cons_zero, blt01, Bool.and_false, Bool.and_true, Bool.false_and, Bool.true_and, Bool.false_eq_true, Bool.true_eq_false, false_and, and_false, false_implies]
  all_goals repeat' (first | apply And.intro | intro (⟨k, c, r⟩ : Nat × Nat × Nat) | intro _)
  all_goals try dsimp only at *
  all_goals try omega
  all_goals try (first
    | have hr := r1 ‹_›
    | have hr := r2 ‹_›
    | have hr := r3 ‹_› ‹_›)
  all_goals try (first
    | have hn := n1 hr
    | have hn := n2 hr)
  all_goals try rw [hn.1]
  all_goals try rw [hn.2]
  all_goals try simp only [hr, roomIf, cond_true, cond_false]
  all_goals first
    | assumption
    | exact hp'
    | rfl
    | omega
theorem rput_ok : CtOk Try.prog 9 RputS.ct := Sp.ok Γi_ok hm Try.func9 RputS RputS_found (fun _ _ _ => none) (fun x h => rput_vc x.1 x.2 h.1 h.2)
end Go.Wk.P05
