/-
  Where places end; under the rows' own bounds.
-/
import Derived.Test.YtmbeekfbnfndgaaPf
namespace Go.Wk.P04
open Go Go.Vs Go.Proofs
set_option linter.unusedSimpArgs false
set_option linter.unusedVariables false
set_option maxRecDepth 10000

/-! ends -/
def top1 (n : Int) : Int := if 1 > n then 1 else n
def ends (k : Kd) (q : Rq) : Bool := decide (q.addr + top1 q.qty ≤ 65536) && (!k.to || decide (q.to + (q.v.n : Int) ≤ 65536))
structure Low (q : Rq) : Prop where
  addr : 0 ≤ q.addr ∧ q.addr ≤ 65535
  to : 0 ≤ q.to ∧ q.to ≤ 65535
  qty : 0 ≤ q.qty ∧ q.qty ≤ 65535
def EndsS : Sp where
  X := Kd × Rq
  Y := fun _ => Unit
  y0 := fun _ => ()
  pat := fun x => ([kdA x.1, rqV x.2 0], [some (wO x.2.v)])
  fnd := fndKQ
  pre := fun x => RqOk x.2 ∧ Low x.2
  res := fun x _ => just (bv (ends x.1 x.2))
  pick := fun _ _ _ => some ((), [0])
theorem EndsS_found : EndsS.spec.Found := fun _ _ _ _ h => fndKQ_found h
set_option maxRecDepth 100000 in
theorem ends_nf (k : Kd) (q : Rq) : (fnV Try.prog Γnone (fun (x : Code) (x_1 : AS) => none) Try.f46 [kdA k, rqV q 0] [some (wO (Rq.v q))] (Sp.good EndsS (k, q))) = (let q_1 := Bif (AO.deadB (wO (Rq.v q))) True (AO.arr (SS.rw (Rq.v q)) 44 (SS.room (Rq.v q)) (SS.m (Rq.v q)) [Col.int IntKind.u16 (SS.l (Rq.v q))] = AO.arr (SS.rw (Rq.v q)) 44 (SS.room (Rq.v q)) (SS.m (Rq.v q)) [Col.int IntKind.u16 (SS.l (Rq.v q))]) ∧ True; let q_2 := IntKind.wrap IntKind.i64 (Rq.addr q + if 1 > Rq.qty q then 1 else Rq.qty q); let q_3 := IntKind.wrap IntKind.i64 (Rq.to q + (↑(SS.n (Rq.v q)) : Int)); Bif (decide (q_2 ≤ 65536)) (Bif (!Kd.to k) ((AV.val (Value.bool true) = AV.val (Value.bool (ends k q)) ∧ True) ∧ q_1) ((AV.val (Value.bool (decide (q_3 ≤ 65536))) = AV.val (Value.bool (ends k q)) ∧ True) ∧ q_1)) ((AV.val (Value.bool false) = AV.val (Value.bool (ends k q)) ∧ True) ∧ q_1)) := by kernel_rfl
set_option maxHeartbeats 1000000 in
theorem ends_vc (k : Kd) (q : Rq) (hq : RqOk q) (hl : Low q) : FnV Try.prog Γnone (fun _ _ => none) Try.f46 [kdA k, rqV q 0] [some (wO q.v)] (EndsS.good (k, q)) := by
  obtain ⟨h1, h2, h3, h4, h5⟩ := hq
  obtain ⟨g1, g2, g3⟩ := hl
  have h6 := h5.n
  have w1 : IntKind.i64.wrap (q.addr + if 1 > q.qty then 1 else q.qty) = q.addr + top1 q.qty := by
    simp only [top1]; split <;> exact IntWalk.i64_in _ (by omega)
  have w2 : IntKind.i64.wrap (q.to + (q.v.n : Int)) = q.to + (q.v.n : Int) := IntWalk.i64_in _ (by omega)
  refine FnV.of (ends_nf _ _) ?_
  all_goals try simp only [Bif_need, Bif_True]
  all_goals try simp only [Bif_iff, eq_self, and_true, true_and, AV.val.injEq, AV.agg.injEq, AV.tup.injEq, AV.sl.injEq, AV.ptr.injEq, AV.mp.injEq, Value.int.injEq, Value.bool.injEq, Value.string.injEq, AO.cells.injEq, AO.arr.injEq, AO.mapc.injEq, List.cons.injEq, Col.bool.injEq, Col.int.injEq, Col.str.injEq, MCol.int.injEq, MCol.bool.injEq, MCol.str.injEq, decide_eq_true_eq, decide_eq_false_iff_not, Nat.zero_add, Nat.add_zero, implies_true, Bool.and_eq_true, inR_iff, List.drop_zero, List.take_nil, List.drop_nil, List.nil_append, Int.toNat_natCast, longEnough, colLen, Bool.not_true, Bool.not_false, Bool.true_or, Bool.or_eq_true, Bool.not_eq_true', Bool.not_eq_false', take_take_self, take_tab, one_col, tab_length, mix_length, List.length_take, Nat.min_eq_left, List.set_cons_zero, blt01, Bool.and_false, Bool.and_true, Bool.false_and, Bool.true_and, Bool.false_eq_true, Bool.true_eq_false, false_and, and_false, false_implies, w1, w2]
  all_goals repeat' (first | apply And.intro | intro (⟨k, c, r⟩ : Nat × Nat × Nat) | intro _)
  all_goals try dsimp only at *
  all_goals try omega
  all_goals first
    | assumption
    | (simp [ends, *]; done)
    | grind [ends]
theorem ends_ok : CtOk Try.prog 46 EndsS.ct := Sp.ok CtsOk.none hm Try.func46 EndsS EndsS_found (fun _ _ _ => none) (fun x h => ends_vc x.1 x.2 h.1 h.2)
end Go.Wk.P04
