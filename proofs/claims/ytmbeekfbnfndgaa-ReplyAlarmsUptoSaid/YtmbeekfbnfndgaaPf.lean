/-
  What a request must have; under the rows' own bounds.
-/
import Derived.Test.YtmbeekfbnfndgaaPe
namespace Go.Wk.P04
open Go Go.Vs Go.Proofs
set_option linter.unusedSimpArgs false
set_option linter.unusedVariables false
set_option maxRecDepth 10000

/-! a request -/
structure Rq where
  fc : Int
  addr : Int
  qty : Int
  v : SS
  to : Int
abbrev rqV (q : Rq) (b : Nat) : AV := .agg [iv q.fc, iv q.addr, iv q.qty, ssV q.v b, iv q.to]
abbrev kdA (k : Kd) : AV := .agg [iv k.most, iv k.least, iv k.more, bv k.all, bv k.reads, bv k.bits, bv k.to]
def I64 (n : Int) : Prop := -9223372036854775808 ≤ n ∧ n ≤ 9223372036854775807
structure RqOk (q : Rq) : Prop where
  fc : I64 q.fc
  addr : I64 q.addr
  qty : I64 q.qty
  to : I64 q.to
  v : WOk q.v

def ones (q : Rq) : Bool := !(anyN q.v.n (big q.v))
def shaped (k : Kd) (q : Rq) : Bool :=
  (!k.bits || ones q) && ((k.most == 0 && q.qty == 0 || decide (k.most > 0) && (decide (q.qty ≥ 1) && decide (q.qty ≤ k.most))) &&
  ((decide ((q.v.n : Int) ≥ bif k.all then q.qty else k.least) && decide ((q.v.n : Int) ≤ bif k.all then q.qty else k.more)) &&
  ((decide (q.addr ≥ 0) && decide (q.addr ≤ 65535)) && ((decide (q.to ≥ 0) && decide (q.to ≤ 65535)) && (k.to || q.to == 0)))))
def fndQ (v : AV) (H : AHeap) : Option (Rq × Nat) := match v with
  | .agg [.val (.int .i64 fc), .val (.int .i64 addr), .val (.int .i64 qty), v, .val (.int .i64 to)] => (match fndS 44 .u16 v H with | some (s, b) => some (⟨fc, addr, qty, s, to⟩, b) | none => none)
  | _ => none
theorem fndQ_found {v : AV} {H : AHeap} {q : Rq} {b : Nat} (h : fndQ v H = some (q, b)) : v = rqV q b ∧ H[b]? = some (some (wO q.v)) := by
  unfold fndQ at h
  split at h
  rotate_left
  · cases h
  split at h
  rotate_left
  · cases h
  rename_i hs
  cases h
  obtain ⟨rfl, h2⟩ := fndS_found hs
  exact ⟨rfl, h2⟩
def fndKQ (args : List AV) (H : AHeap) : Option ((Kd × Rq) × List Nat) := match args with
  | [.agg [.val (.int .i64 most), .val (.int .i64 least), .val (.int .i64 more), .val (.bool all), .val (.bool reads), .val (.bool bits), .val (.bool to)], v] =>
    (match fndQ v H with | some (q, b) => some ((⟨most, least, more, all, reads, bits, to⟩, q), [b]) | none => none)
  | _ => none
theorem fndKQ_found {args : List AV} {H : AHeap} {x : Kd × Rq} {σ : List Nat} (h : fndKQ args H = some (x, σ)) : args = AV.rens σ [kdA x.1, rqV x.2 0] ∧ ∀ (i : Nat) (ao : AO), [some (wO x.2.v)][i]? = some (some ao) → H[ren1 σ i]? = some (some (ao.ren σ)) := by
  unfold fndKQ at h
  split at h
  rotate_left
  · cases h
  split at h
  rotate_left
  · cases h
  rename_i q b hq
  cases h
  obtain ⟨rfl, h2⟩ := fndQ_found hq
  exact ⟨rfl, fun i ao hi => by
    match i, hi with
    | 0, hi => obtain rfl := Option.some.inj (Option.some.inj hi); exact h2⟩
theorem idx_any (n : Nat) (p : Nat → Bool) : (idx (findN n p) ≥ 0) ↔ anyN n p = true := by
  cases h : findN n p with
  | none =>
    have h2 : anyN n p = false := anyN_not.2 (findN_no h)
    simp [idx, h2]
  | some k =>
    have h2 : anyN n p = true := anyN_iff.2 ⟨k, (findN_eq h).1, (findN_eq h).2.1⟩
    simp [idx, h2]
def ShapedS : Sp where
  X := Kd × Rq
  Y := fun _ => Unit
  y0 := fun _ => ()
  pat := fun x => ([kdA x.1, rqV x.2 0], [some (wO x.2.v)])
  fnd := fndKQ
  pre := fun x => RqOk x.2
  res := fun x _ => just (bv (shaped x.1 x.2))
  pick := fun _ _ _ => some ((), [0])
theorem ShapedS_found : ShapedS.spec.Found := fun _ _ _ _ h => fndKQ_found h
noncomputable def Γ3 : Cts := Γ2.add 31 (autoCt Try.prog Γ2 Try.f31)
theorem Γ3_ok : CtsOk Try.prog Γ3 := Γ2_ok.add (autoCt_ok Γ2_ok hm Try.func31) Try.func31 (by kernel_rfl) (by kernel_rfl)
set_option maxRecDepth 100000 in
theorem shaped_nf (k : Kd) (q : Rq) : (fnV Try.prog Γ3 (fun (x : Code) (x_1 : AS) => none) Try.f45 [kdA k, rqV q 0] [some (wO (Rq.v q))] (Sp.good ShapedS (k, q))) = (let q_1 := (AV.val (Value.bool false) = AV.val (Value.bool (shaped k q)) ∧ True) ∧ Bif (AO.deadB (wO (Rq.v q))) True (AO.arr (SS.rw (Rq.v q)) 44 (SS.room (Rq.v q)) (SS.m (Rq.v q)) [Col.int IntKind.u16 (SS.l (Rq.v q))] = AO.arr (SS.rw (Rq.v q)) 44 (SS.room (Rq.v q)) (SS.m (Rq.v q)) [Col.int IntKind.u16 (SS.l (Rq.v q))]) ∧ True; let q_2 := Bif (decide (Kd.most k > 0)) (Bif (decide (Rq.qty q ≥ 1)) (Bif (decide (Rq.qty q ≤ Kd.most k)) (Bif (decide ((↑(SS.n (Rq.v q)) : Int) ≥ Rq.qty q)) (Bif (decide ((↑(SS.n (Rq.v q)) : Int) ≤ Rq.qty q)) (Bif (decide (Rq.addr q ≥ 0)) (Bif (decide (Rq.addr q ≤ 65535)) (Bif (decide (Rq.to q ≥ 0)) (Bif (decide (Rq.to q ≤ 65535)) (Bif (Kd.to k) ((AV.val (Value.bool true) = AV.val (Value.bool (shaped k q)) ∧ True) ∧ Bif (AO.deadB (wO (Rq.v q))) True (AO.arr (SS.rw (Rq.v q)) 44 (SS.room (Rq.v q)) (SS.m (Rq.v q)) [Col.int IntKind.u16 (SS.l (Rq.v q))] = AO.arr (SS.rw (Rq.v q)) 44 (SS.room (Rq.v q)) (SS.m (Rq.v q)) [Col.int IntKind.u16 (SS.l (Rq.v q))]) ∧ True) ((AV.val (Value.bool (Rq.to q == 0)) = AV.val (Value.bool (shaped k q)) ∧ True) ∧ Bif (AO.deadB (wO (Rq.v q))) True (AO.arr (SS.rw (Rq.v q)) 44 (SS.room (Rq.v q)) (SS.m (Rq.v q)) [Col.int IntKind.u16 (SS.l (Rq.v q))] = AO.arr (SS.rw (Rq.v q)) 44 (SS.room (Rq.v q)) (SS.m (Rq.v q)) [Col.int IntKind.u16 (SS.l (Rq.v q))]) ∧ True)) q_1) q_1) q_1) q_1) q_1) q_1) q_1) q_1) q_1; let q_3 := Bif (decide (Kd.most k > 0)) (Bif (decide (Rq.qty q ≥ 1)) (Bif (decide (Rq.qty q ≤ Kd.most k)) (Bif (decide ((↑(SS.n (Rq.v q)) : Int) ≥ Kd.least k)) (Bif (decide ((↑(SS.n (Rq.v q)) : Int) ≤ Kd.more k)) (Bif (decide (Rq.addr q ≥ 0)) (Bif (decide (Rq.addr q ≤ 65535)) (Bif (decide (Rq.to q ≥ 0)) (Bif (decide (Rq.to q ≤ 65535)) (Bif (Kd.to k) ((AV.val (Value.bool true) = AV.val (Value.bool (shaped k q)) ∧ True) ∧ Bif (AO.deadB (wO (Rq.v q))) True (AO.arr (SS.rw (Rq.v q)) 44 (SS.room (Rq.v q)) (SS.m (Rq.v q)) [Col.int IntKind.u16 (SS.l (Rq.v q))] = AO.arr (SS.rw (Rq.v q)) 44 (SS.room (Rq.v q)) (SS.m (Rq.v q)) [Col.int IntKind.u16 (SS.l (Rq.v q))]) ∧ True) ((AV.val (Value.bool (Rq.to q == 0)) = AV.val (Value.bool (shaped k q)) ∧ True) ∧ Bif (AO.deadB (wO (Rq.v q))) True (AO.arr (SS.rw (Rq.v q)) 44 (SS.room (Rq.v q)) (SS.m (Rq.v q)) [Col.int IntKind.u16 (SS.l (Rq.v q))] = AO.arr (SS.rw (Rq.v q)) 44 (SS.room (Rq.v q)) (SS.m (Rq.v q)) [Col.int IntKind.u16 (SS.l (Rq.v q))]) ∧ True)) q_1) q_1) q_1) q_1) q_1) q_1) q_1) q_1) q_1; let q_4 := Bif (decide ((↑(SS.n (Rq.v q)) : Int) ≥ Kd.least k)) (Bif (decide ((↑(SS.n (Rq.v q)) : Int) ≤ Kd.more k)) (Bif (decide (Rq.addr q ≥ 0)) (Bif (decide (Rq.addr q ≤ 65535)) (Bif (decide (Rq.to q ≥ 0)) (Bif (decide (Rq.to q ≤ 65535)) (Bif (Kd.to k) ((AV.val (Value.bool true) = AV.val (Value.bool (shaped k q)) ∧ True) ∧ Bif (AO.deadB (wO (Rq.v q))) True (AO.arr (SS.rw (Rq.v q)) 44 (SS.room (Rq.v q)) (SS.m (Rq.v q)) [Col.int IntKind.u16 (SS.l (Rq.v q))] = AO.arr (SS.rw (Rq.v q)) 44 (SS.room (Rq.v q)) (SS.m (Rq.v q)) [Col.int IntKind.u16 (SS.l (Rq.v q))]) ∧ True) ((AV.val (Value.bool (Rq.to q == 0)) = AV.val (Value.bool (shaped k q)) ∧ True) ∧ Bif (AO.deadB (wO (Rq.v q))) True (AO.arr (SS.rw (Rq.v q)) 44 (SS.room (Rq.v q)) (SS.m (Rq.v q)) [Col.int IntKind.u16 (SS.l (Rq.v q))] = AO.arr (SS.rw (Rq.v q)) 44 (SS.room (Rq.v q)) (SS.m (Rq.v q)) [Col.int IntKind.u16 (SS.l (Rq.v q))]) ∧ True)) q_1) q_1) q_1) q_1) q_1) q_1; let q_5 := Bif (decide ((↑(SS.n (Rq.v q)) : Int) ≥ Rq.qty q)) (Bif (decide ((↑(SS.n (Rq.v q)) : Int) ≤ Rq.qty q)) (Bif (decide (Rq.addr q ≥ 0)) (Bif (decide (Rq.addr q ≤ 65535)) (Bif (decide (Rq.to q ≥ 0)) (Bif (decide (Rq.to q ≤ 65535)) (Bif (Kd.to k) ((AV.val (Value.bool true) = AV.val (Value.bool (shaped k q)) ∧ True) ∧ Bif (AO.deadB (wO (Rq.v q))) True (AO.arr (SS.rw (Rq.v q)) 44 (SS.room (Rq.v q)) (SS.m (Rq.v q)) [Col.int IntKind.u16 (SS.l (Rq.v q))] = AO.arr (SS.rw (Rq.v q)) 44 (SS.room (Rq.v q)) (SS.m (Rq.v q)) [Col.int IntKind.u16 (SS.l (Rq.v q))]) ∧ True) ((AV.val (Value.bool (Rq.to q == 0)) = AV.val (Value.bool (shaped k q)) ∧ True) ∧ Bif (AO.deadB (wO (Rq.v q))) True (AO.arr (SS.rw (Rq.v q)) 44 (SS.room (Rq.v q)) (SS.m (Rq.v q)) [Col.int IntKind.u16 (SS.l (Rq.v q))] = AO.arr (SS.rw (Rq.v q)) 44 (SS.room (Rq.v q)) (SS.m (Rq.v q)) [Col.int IntKind.u16 (SS.l (Rq.v q))]) ∧ True)) q_1) q_1) q_1) q_1) q_1) q_1; let q_6 := Bif (!decide (idx (findN (SS.n (Rq.v q)) (big (Rq.v q))) ≥ 0)) q_1 q_1; let q_7 := Bif (AO.deadB (wO (Rq.v q))) True (AO.arr (SS.rw (Rq.v q)) 44 (SS.room (Rq.v q)) (SS.m (Rq.v q)) [Col.int IntKind.u16 (SS.l (Rq.v q))] = AO.arr (SS.rw (Rq.v q)) 44 (SS.room (Rq.v q)) (SS.m (Rq.v q)) [Col.int IntKind.u16 (SS.l (Rq.v q))]) ∧ True; let q_8 := Rq.qty q == 0; let q_9 := Kd.most k == 0; let q_10 := !decide (idx (findN (SS.n (Rq.v q)) (big (Rq.v q))) ≥ 0); let q_11 := AV.val (Value.bool (Rq.to q == 0)) = AV.val (Value.bool (shaped k q)) ∧ True; let q_12 := decide (Kd.most k > 0); let q_13 := decide (Rq.addr q ≥ 0); let q_14 := decide (Rq.to q ≤ 65535); let q_15 := decide (Rq.to q ≥ 0); let q_16 := decide (Rq.addr q ≤ 65535); let q_17 := decide (Rq.qty q ≥ 1); let q_18 := decide (Rq.qty q ≤ Kd.most k); let q_19 := AV.val (Value.bool true) = AV.val (Value.bool (shaped k q)) ∧ True; let q_20 := idx (findN (SS.n (Rq.v q)) (big (Rq.v q))); Bif (Kd.all k) (Bif (!Kd.bits k) (Bif q_9 (Bif q_8 q_5 q_2) q_2) (WOk (Rq.v q) ∧ ∀ (x : Unit), let q_21 := Bif q_12 (Bif q_17 (Bif q_10 (Bif q_18 q_5 q_1) q_1) q_6) q_6; let q_22 := q_1; let q_23 := q_7; let q_24 := q_20; Bif q_9 (Bif q_8 (Bif (!decide (q_24 ≥ 0)) (Bif (decide ((↑(SS.n (Rq.v q)) : Int) ≥ Rq.qty q)) (Bif (decide ((↑(SS.n (Rq.v q)) : Int) ≤ Rq.qty q)) (Bif q_13 (Bif q_16 (Bif q_15 (Bif q_14 (Bif (Kd.to k) (q_19 ∧ q_23) (q_11 ∧ q_23)) q_22) q_22) q_22) q_22) q_22) q_22) q_22) q_21) q_21)) (Bif (!Kd.bits k) (Bif q_9 (Bif q_8 q_4 q_3) q_3) (WOk (Rq.v q) ∧ ∀ (x : Unit), let q_21 := Bif q_12 (Bif q_17 (Bif q_10 (Bif q_18 q_4 q_1) q_1) q_6) q_6; let q_22 := q_1; let q_23 := q_7; let q_24 := q_20; Bif q_9 (Bif q_8 (Bif (!decide (q_24 ≥ 0)) (Bif (decide ((↑(SS.n (Rq.v q)) : Int) ≥ Kd.least k)) (Bif (decide ((↑(SS.n (Rq.v q)) : Int) ≤ Kd.more k)) (Bif q_13 (Bif q_16 (Bif q_15 (Bif q_14 (Bif (Kd.to k) (q_19 ∧ q_23) (q_11 ∧ q_23)) q_22) q_22) q_22) q_22) q_22) q_22) q_22) q_21) q_21))) := by kernel_rfl
set_option maxHeartbeats 1000000 in
theorem shaped_vc (k : Kd) (q : Rq) (hq : RqOk q) : FnV Try.prog Γ3 (fun _ _ => none) Try.f45 [kdA k, rqV q 0] [some (wO q.v)] (ShapedS.good (k, q)) := by
  obtain ⟨h1, h2, h3, h4, h5⟩ := hq
  refine FnV.of (shaped_nf _ _) ?_
  all_goals try simp only [Bif_need, Bif_True]
  all_goals try simp only [Bif_iff, eq_self, and_true, true_and, AV.val.injEq, AV.agg.injEq, AV.tup.injEq, AV.sl.injEq, AV.ptr.injEq, AV.mp.injEq, Value.int.injEq, Value.bool.injEq, Value.string.injEq, AO.cells.injEq, AO.arr.injEq, AO.mapc.injEq, List.cons.injEq, Col.bool.injEq, Col.int.injEq, Col.str.injEq, MCol.int.injEq, MCol.bool.injEq, MCol.str.injEq, decide_eq_true_eq, decide_eq_false_iff_not, Nat.zero_add, Nat.add_zero, implies_true, Bool.and_eq_true, inR_iff, List.drop_zero, List.take_nil, List.drop_nil, List.nil_append, Int.toNat_natCast, longEnough, colLen, Bool.not_true, Bool.not_false, Bool.true_or, Bool.or_eq_true, Bool.not_eq_true', Bool.not_eq_false', take_take_self, take_tab, one_col, tab_length, mix_length, List.length_take, Nat.min_eq_left, List.set_cons_zero, blt01, Bool.and_false, Bool.and_true, Bool.false_and, Bool.true_and, Bool.false_eq_true, Bool.true_eq_false, false_and, and_false, false_implies, idx_any]
  all_goals repeat' (first | apply And.intro | intro (⟨k, c, r⟩ : Nat × Nat × Nat) | intro _)
  all_goals try dsimp only at *
  all_goals try omega
  all_goals first
    | assumption
    | (simp only [bne_iff_ne, ne_eq, bne_eq_false_iff_eq, beq_iff_eq, beq_eq_false_iff_ne] at *; simp [shaped, ones, *]; done)
    | (simp [shaped, ones, *]; done)
    | grind [shaped, ones]
theorem shaped_ok : CtOk Try.prog 45 ShapedS.ct := Sp.ok Γ3_ok hm Try.func45 ShapedS ShapedS_found (fun _ _ _ => none) (fun x h => shaped_vc x.1 x.2 h)
end Go.Wk.P04
