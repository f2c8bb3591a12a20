/-
  The bytes of an answer; under the rows' own bounds.
-/
import Derived.Test.YtmbeekfbnfndgaaRb
namespace Go.Wk.P05
open Go Go.Vs Go.Proofs Go.Wk.P04
set_option linter.unusedSimpArgs false
set_option linter.unusedVariables false
set_option maxRecDepth 10000

/-! the bytes of an answer -/
def or128 (a : Int) : Int := IntKind.u8.wrap ↑(BitVec.ofInt IntKind.u8.bits a ||| BitVec.ofInt IntKind.u8.bits 128).toNat
def isW (n : Int) : Bool := n == 15 || n == 16
def data (q : Rq) (p : Rp) : List Int := bif rbits q.fc then bN p.v.get p.v.n else wN p.v.get p.v.n
def rpL (q : Rq) (p : Rp) : List Int :=
  bif p.code != 0 then [or128 (q.fc % 256), p.code % 256] else
  bif isReads q.fc then [q.fc % 256, ((data q p).length : Int) % 256] ++ data q p else putL q
def rpN (q : Rq) (p : Rp) : Nat :=
  bif p.code != 0 then 2 else bif isReads q.fc then 2 + (data q p).length else bif isW q.fc then 5 else (putL q).length
noncomputable def Γh : Cts := Γg.add 33 BitsS.ct
theorem Γh_ok : CtsOk Try.prog Γh := Γg_ok.add bits_ok Try.func33 (by kernel_rfl) (by kernel_rfl)
def PutAS : Sp where
  X := (Rq × Bool × Bool) × Rp
  Y := fun _ => Nat × Nat
  y0 := fun _ => (0, 0)
  pat := fun x => ([akV x.1.1 x.1.2.1 x.1.2.2 0, rpV x.2 1], [some (wO x.1.1.v), some (wO x.2.v)])
  fnd := fun args H => match args with
    | [v, w] => (match fndA v H, fndP w H with | some (q, b), some (p, c) => some ((q, p), [b, c]) | _, _ => none)
    | _ => none
  pre := fun x => RqOk x.1.1 ∧ RpOk x.2 ∧ rright x.1.1 x.2 = true ∧ x.1.2.1 = isReads x.1.1.fc ∧ x.1.2.2 = rbits x.1.1.fc
  res := fun x y => ⟨.sl false 2 1 0 (rpN x.1.1 x.2) ((rpL x.1.1 x.2).length + y.1), [], [ownO (rpL x.1.1 x.2).length y (rpL x.1.1 x.2)]⟩
  pick := fun x v H => (pkO (rpL x.1.1 x.2).length v H).map fun (y, b) => (y, [0, 1, b])
theorem PutAS_found : PutAS.spec.Found := by
  intro args H x σ h
  simp only [Sp.spec, PutAS] at h
  split at h
  rotate_left
  · cases h
  split at h
  rotate_left
  · cases h
  rename_i q b p c hq hp
  cases h
  obtain ⟨rfl, h2⟩ := fndA_found hq
  obtain ⟨rfl, h3⟩ := fndP_found hp
  exact ⟨rfl, fun i ao hi => by
    match i, hi with
    | 0, hi => obtain rfl := Option.some.inj (Option.some.inj hi); exact h2
    | 1, hi => obtain rfl := Option.some.inj (Option.some.inj hi); exact h3⟩
theorem isW_len {q : Rq} (hr : right q = true) (h : isW q.fc = true) : 5 ≤ (putL q).length := by
  simp only [putL, hr, cond_true]
  simp only [isW, Bool.or_eq_true, beq_iff_eq] at h
  rcases h with h | h
  · rw [h]; simp [putB, h, kdAt, kdOf, w1_length, bN_length]; omega
  · rw [h]; simp [putB, h, kdAt, kdOf, w1_length, wN_length]; omega
theorem beqz (n m : Nat) (h : n = 0 → m = 0) : Nat.beq n 0 = false ∨ m = 0 := by
  cases n with
  | zero => exact .inr (h rfl)
  | succ n => exact .inl rfl
set_option maxRecDepth 100000 in
theorem puta_nf (q : Rq) (rd : Bool) (bt : Bool) (p : Rp) : (fnV Try.prog Γh (fun (x : Code) (x_1 : AS) => none) Try.f20 [akV q rd bt 0, rpV p 1] [some (wO (Rq.v q)), some (wO (Rp.v p))] (Sp.good PutAS ((q, rd, bt), p))) = (let q_1 := Bif (Rq.fc q == 15) (Bif (Rq.fc q == 15) (RqOk (Rq.mk (Rq.fc q) (Rq.addr q) (Rq.qty q) (Rq.v q) (Rq.to q)) ∧ ∀ (x : Nat × Nat), let q_1 := List.length (putL q) + Prod.fst (roomIf (right q) x); let q_2 := List.length (rpL q p) + (q_1 - List.length (rpL q p)); let q_3 := AO.arr (SS.rw (Rq.v q)) 44 (SS.room (Rq.v q)) (SS.m (Rq.v q)) [Col.int IntKind.u16 (SS.l (Rq.v q))]; let q_4 := AO.arr (SS.rw (Rp.v p)) 44 (SS.room (Rp.v p)) (SS.m (Rp.v p)) [Col.int IntKind.u16 (SS.l (Rp.v p))]; let q_5 := q_1 + Prod.snd (roomIf (right q) x) - q_1; Bif (inC 5 q_1) ((AV.sl (!right q) 4 1 (0 + cutOff q_1 0) 5 q_1 = AV.sl false 4 1 0 (rpN q p) q_2 ∧ True) ∧ Bif (AO.deadB (wO (Rq.v q))) True (q_3 = q_3) ∧ Bif (AO.deadB (wO (Rp.v p))) True (q_4 = q_4) ∧ Bif (AO.deadB (ownO (List.length (rpL q p)) (q_1 - List.length (rpL q p), q_5) (rpL q p))) True (AO.arr true 5 (q_1 + Prod.snd (roomIf (right q) x)) (List.length (putL q)) [Col.int IntKind.u8 (putL q)] = AO.arr true 5 (q_2 + q_5) (List.length (rpL q p)) [Col.int IntKind.u8 (rpL q p)]) ∧ True) False) (RqOk (Rq.mk (Rq.fc q) (Rq.addr q) (Rq.qty q) (Rq.v q) (Rq.to q)) ∧ ∀ (x : Nat × Nat), let q_1 := List.length (putL q) + Prod.fst (roomIf (right q) x) + Prod.snd (roomIf (right q) x) - (List.length (putL q) + Prod.fst (roomIf (right q) x)); let q_2 := List.length (rpL q p) + (List.length (putL q) + Prod.fst (roomIf (right q) x) - List.length (rpL q p)); let q_3 := List.length (putL q) + Prod.fst (roomIf (right q) x); let q_4 := AO.arr (SS.rw (Rp.v p)) 44 (SS.room (Rp.v p)) (SS.m (Rp.v p)) [Col.int IntKind.u16 (SS.l (Rp.v p))]; let q_5 := AO.arr (SS.rw (Rq.v q)) 44 (SS.room (Rq.v q)) (SS.m (Rq.v q)) [Col.int IntKind.u16 (SS.l (Rq.v q))]; (AV.sl (!right q) 4 1 0 (List.length (putL q)) q_3 = AV.sl false 4 1 0 (rpN q p) q_2 ∧ True) ∧ Bif (AO.deadB (wO (Rq.v q))) True (q_5 = q_5) ∧ Bif (AO.deadB (wO (Rp.v p))) True (q_4 = q_4) ∧ Bif (AO.deadB (ownO (List.length (rpL q p)) (q_3 - List.length (rpL q p), q_1) (rpL q p))) True (AO.arr true 5 (q_3 + Prod.snd (roomIf (right q) x)) (List.length (putL q)) [Col.int IntKind.u8 (putL q)] = AO.arr true 5 (q_2 + q_1) (List.length (rpL q p)) [Col.int IntKind.u8 (rpL q p)]) ∧ True)) (Bif (Rq.fc q == 16) (RqOk (Rq.mk (Rq.fc q) (Rq.addr q) (Rq.qty q) (Rq.v q) (Rq.to q)) ∧ ∀ (x : Nat × Nat), let q_1 := List.length (putL q) + Prod.fst (roomIf (right q) x); let q_2 := List.length (rpL q p) + (q_1 - List.length (rpL q p)); let q_3 := AO.arr (SS.rw (Rq.v q)) 44 (SS.room (Rq.v q)) (SS.m (Rq.v q)) [Col.int IntKind.u16 (SS.l (Rq.v q))]; let q_4 := AO.arr (SS.rw (Rp.v p)) 44 (SS.room (Rp.v p)) (SS.m (Rp.v p)) [Col.int IntKind.u16 (SS.l (Rp.v p))]; let q_5 := q_1 + Prod.snd (roomIf (right q) x) - q_1; Bif (inC 5 q_1) ((AV.sl (!right q) 4 1 (0 + cutOff q_1 0) 5 q_1 = AV.sl false 4 1 0 (rpN q p) q_2 ∧ True) ∧ Bif (AO.deadB (wO (Rq.v q))) True (q_3 = q_3) ∧ Bif (AO.deadB (wO (Rp.v p))) True (q_4 = q_4) ∧ Bif (AO.deadB (ownO (List.length (rpL q p)) (q_1 - List.length (rpL q p), q_5) (rpL q p))) True (AO.arr true 5 (q_1 + Prod.snd (roomIf (right q) x)) (List.length (putL q)) [Col.int IntKind.u8 (putL q)] = AO.arr true 5 (q_2 + q_5) (List.length (rpL q p)) [Col.int IntKind.u8 (rpL q p)]) ∧ True) False) (RqOk (Rq.mk (Rq.fc q) (Rq.addr q) (Rq.qty q) (Rq.v q) (Rq.to q)) ∧ ∀ (x : Nat × Nat), let q_1 := List.length (putL q) + Prod.fst (roomIf (right q) x) + Prod.snd (roomIf (right q) x) - (List.length (putL q) + Prod.fst (roomIf (right q) x)); let q_2 := List.length (rpL q p) + (List.length (putL q) + Prod.fst (roomIf (right q) x) - List.length (rpL q p)); let q_3 := List.length (putL q) + Prod.fst (roomIf (right q) x); let q_4 := AO.arr (SS.rw (Rp.v p)) 44 (SS.room (Rp.v p)) (SS.m (Rp.v p)) [Col.int IntKind.u16 (SS.l (Rp.v p))]; let q_5 := AO.arr (SS.rw (Rq.v q)) 44 (SS.room (Rq.v q)) (SS.m (Rq.v q)) [Col.int IntKind.u16 (SS.l (Rq.v q))]; (AV.sl (!right q) 4 1 0 (List.length (putL q)) q_3 = AV.sl false 4 1 0 (rpN q p) q_2 ∧ True) ∧ Bif (AO.deadB (wO (Rq.v q))) True (q_5 = q_5) ∧ Bif (AO.deadB (wO (Rp.v p))) True (q_4 = q_4) ∧ Bif (AO.deadB (ownO (List.length (rpL q p)) (q_3 - List.length (rpL q p), q_1) (rpL q p))) True (AO.arr true 5 (q_3 + Prod.snd (roomIf (right q) x)) (List.length (putL q)) [Col.int IntKind.u8 (putL q)] = AO.arr true 5 (q_2 + q_1) (List.length (rpL q p)) [Col.int IntKind.u8 (rpL q p)]) ∧ True)); let q_2 := (AV.sl false 4 1 0 2 2 = AV.sl false 4 1 0 (rpN q p) (List.length (rpL q p) + (2 - List.length (rpL q p))) ∧ True) ∧ Bif (AO.deadB (wO (Rq.v q))) True (AO.arr (SS.rw (Rq.v q)) 44 (SS.room (Rq.v q)) (SS.m (Rq.v q)) [Col.int IntKind.u16 (SS.l (Rq.v q))] = AO.arr (SS.rw (Rq.v q)) 44 (SS.room (Rq.v q)) (SS.m (Rq.v q)) [Col.int IntKind.u16 (SS.l (Rq.v q))]) ∧ Bif (AO.deadB (wO (Rp.v p))) True (AO.arr (SS.rw (Rp.v p)) 44 (SS.room (Rp.v p)) (SS.m (Rp.v p)) [Col.int IntKind.u16 (SS.l (Rp.v p))] = AO.arr (SS.rw (Rp.v p)) 44 (SS.room (Rp.v p)) (SS.m (Rp.v p)) [Col.int IntKind.u16 (SS.l (Rp.v p))]) ∧ Bif (AO.deadB (ownO (List.length (rpL q p)) (2 - List.length (rpL q p), 0) (rpL q p))) True (AO.arr true 5 2 2 [Col.int IntKind.u8 (List.set (List.set (List.replicate 2 0) 0 (IntKind.wrap IntKind.u8 (↑(BitVec.toNat (BitVec.ofInt (IntKind.bits IntKind.u8) (IntKind.wrap IntKind.u8 (Rq.fc q)) ||| BitVec.ofInt (IntKind.bits IntKind.u8) 128)) : Int))) 1 (IntKind.wrap IntKind.u8 (Rp.code p)))] = AO.arr true 5 (List.length (rpL q p) + (2 - List.length (rpL q p)) + 0) (List.length (rpL q p)) [Col.int IntKind.u8 (rpL q p)]) ∧ True; let q_3 := AO.arr (SS.rw (Rq.v q)) 44 (SS.room (Rq.v q)) (SS.m (Rq.v q)) [Col.int IntKind.u16 (SS.l (Rq.v q))]; let q_4 := AO.arr (SS.rw (Rp.v p)) 44 (SS.room (Rp.v p)) (SS.m (Rp.v p)) [Col.int IntKind.u16 (SS.l (Rp.v p))]; let q_5 := List.set (List.replicate 2 0) 0 (IntKind.wrap IntKind.u8 (Rq.fc q)); let q_6 := Rp.code p != 0; let q_7 := !Nat.beq (SS.n (Rp.v p)) 0; let q_8 := [Col.int IntKind.u8 (rpL q p)]; Bif bt (Bif q_6 q_2 (Bif rd (WOk (Rp.v p) ∧ ∀ (x : Nat × Nat), let q_9 := (SS.n (Rp.v p) + 7) / 8; let q_10 := 2 + q_9; let q_11 := 0 + q_9; let q_12 := q_10 * 1; let q_13 := bN (SS.get (Rp.v p)) (SS.n (Rp.v p)); Bif (decide (q_11 ≤ q_9) && (longEnough q_11 [Col.int IntKind.u8 q_13] && (q_7 || decide (q_9 = 0))) && (decide (q_12 ≤ 140737488355328) && decide (q_10 ≤ 9223372036854775807)) && true) (∀ (x : Nat), let q_14 := q_10 + x; let q_15 := q_9; let q_16 := List.length (rpL q p) + (q_14 - List.length (rpL q p)); let q_17 := q_3; let q_18 := q_4; let q_19 := 2 + q_15; let q_20 := q_14 - q_14; (AV.sl false 6 1 0 q_19 q_14 = AV.sl false 6 1 0 (rpN q p) q_16 ∧ True) ∧ Bif (AO.deadB (wO (Rq.v q))) True (q_17 = q_17) ∧ Bif (AO.deadB (wO (Rp.v p))) True (q_18 = q_18) ∧ Bif (AO.deadB (ownO (List.length (rpL q p)) (q_14 - List.length (rpL q p), q_20) (rpL q p))) True (AO.arr true 5 q_14 q_19 [Col.int IntKind.u8 (List.take 2 (List.drop 0 (List.set q_5 1 (IntKind.wrap IntKind.u8 (↑q_15 : Int)))) ++ List.take q_15 (List.drop 0 q_13))] = AO.arr true 5 (q_16 + q_20) (List.length (rpL q p)) q_8) ∧ True) False) q_1)) (Bif q_6 q_2 (Bif rd (WOk (Rp.v p) ∧ ∀ (x : Nat × Nat), let q_9 := 2 * SS.n (Rp.v p); let q_10 := 2 + q_9; let q_11 := 0 + q_9; let q_12 := q_10 * 1; let q_13 := wN (SS.get (Rp.v p)) (SS.n (Rp.v p)); Bif (decide (q_11 ≤ q_9) && (longEnough q_11 [Col.int IntKind.u8 q_13] && (q_7 || decide (q_9 = 0))) && (decide (q_12 ≤ 140737488355328) && decide (q_10 ≤ 9223372036854775807)) && true) (∀ (x : Nat), let q_14 := q_10 + x; let q_15 := q_9; let q_16 := List.length (rpL q p) + (q_14 - List.length (rpL q p)); let q_17 := q_3; let q_18 := q_4; let q_19 := 2 + q_15; let q_20 := q_14 - q_14; (AV.sl false 6 1 0 q_19 q_14 = AV.sl false 6 1 0 (rpN q p) q_16 ∧ True) ∧ Bif (AO.deadB (wO (Rq.v q))) True (q_17 = q_17) ∧ Bif (AO.deadB (wO (Rp.v p))) True (q_18 = q_18) ∧ Bif (AO.deadB (ownO (List.length (rpL q p)) (q_14 - List.length (rpL q p), q_20) (rpL q p))) True (AO.arr true 5 q_14 q_19 [Col.int IntKind.u8 (List.take 2 (List.drop 0 (List.set q_5 1 (IntKind.wrap IntKind.u8 (↑q_15 : Int)))) ++ List.take q_15 (List.drop 0 q_13))] = AO.arr true 5 (q_16 + q_20) (List.length (rpL q p)) q_8) ∧ True) False) q_1))) := by kernel_rfl
set_option maxHeartbeats 1000000 in
theorem puta_vc (q : Rq) (rd bt : Bool) (p : Rp) (hq : RqOk q) (hp : RpOk p) (hr : rright q p = true) (h1 : rd = isReads q.fc) (h2 : bt = rbits q.fc) : FnV Try.prog Γh (fun _ _ => none) Try.f20 [akV q rd bt 0, rpV p 1] [some (wO q.v), some (wO p.v)] (PutAS.good ((q, rd, bt), p)) := by
  have R : right q = true := by simp only [rright, Bool.and_eq_true] at hr; exact hr.1
  have hpn := hp.v.n
  have e15 : (q.fc == 15) = true → isW q.fc = true := fun h => by simp only [isW, h, Bool.true_or]
  have e16 : (q.fc == 16) = true → isW q.fc = true := fun h => by simp only [isW, h, Bool.or_true]
  have e0 : (q.fc == 15) = false → (q.fc == 16) = false → isW q.fc = false := fun h h' => by simp only [isW, h, h', Bool.or_false]
  have l5 : isW q.fc = true → 5 ≤ (putL q).length := isW_len R
  have L1 : (p.code != 0) = true → rpN q p = 2 ∧ rpL q p = [or128 (q.fc % 256), p.code % 256] := fun h => by simp only [rpN, rpL, h, cond_true, and_self]
  have L2 : (p.code != 0) = false → rd = true → bt = true → rpN q p = 2 + (p.v.n + 7) / 8 ∧ rpL q p = [q.fc % 256, (((p.v.n + 7) / 8 : Nat) : Int) % 256] ++ bN p.v.get p.v.n := fun h a b => by
    rw [h1] at a; rw [h2] at b
    simp only [rpN, rpL, data, h, a, b, cond_true, cond_false, bN_length, and_self]
  have L3 : (p.code != 0) = false → rd = true → bt = false → rpN q p = 2 + 2 * p.v.n ∧ rpL q p = [q.fc % 256, ((2 * p.v.n : Nat) : Int) % 256] ++ wN p.v.get p.v.n := fun h a b => by
    rw [h1] at a; rw [h2] at b
    simp only [rpN, rpL, data, h, a, b, cond_true, cond_false, wN_length, and_self]
  have L4 : (p.code != 0) = false → rd = false → isW q.fc = true → rpN q p = 5 ∧ rpL q p = putL q := fun h a b => by
    rw [h1] at a
    simp only [rpN, rpL, h, a, b, cond_true, cond_false, and_self]
  have L5 : (p.code != 0) = false → rd = false → isW q.fc = false → rpN q p = (putL q).length ∧ rpL q p = putL q := fun h a b => by
    rw [h1] at a
    simp only [rpN, rpL, h, a, b, cond_true, cond_false, and_self]
  obtain ⟨c1, c2⟩ := hp
  refine FnV.of (puta_nf _ _ _ _) ?_
  clear h1 h2 hr
  all_goals try simp only [Bif_need, Bif_True]
  all_goals try simp only [Bif_iff, eq_self, and_true, true_and, AV.val.injEq, AV.agg.injEq, AV.tup.injEq, AV.sl.injEq, AV.ptr.injEq, AV.mp.injEq, Value.int.injEq, Value.bool.injEq, Value.string.injEq, AO.cells.injEq, AO.arr.injEq, AO.mapc.injEq, List.cons.injEq, Col.bool.injEq, Col.int.injEq, Col.str.injEq, MCol.int.injEq, MCol.bool.injEq, MCol.str.injEq, decide_eq_true_eq, decide_eq_false_iff_not, Nat.zero_add, Nat.add_zero, implies_true, Bool.and_eq_true, inR_iff, List.drop_zero, List.take_nil, List.drop_nil, List.nil_append, Int.toNat_natCast, longEnough, colLen, Bool.not_true, Bool.not_false, Bool.true_or, Bool.or_eq_true, Bool.not_eq_true', Bool.not_eq_false', take_take_self, take_tab, one_col, tab_length, mix_length, List.length_take, Nat.min_eq_left, List.set_cons_zero, blt01, Bool.and_false, Bool.and_true, Bool.false_and, Bool.true_and, Bool.false_eq_true, Bool.true_eq_false, false_and, and_false, false_implies, wrap_u8]
  all_goals repeat' (first | apply And.intro | intro (⟨k, c, r⟩ : Nat × Nat × Nat) | intro _)
  all_goals try dsimp only at *
  all_goals try omega
  all_goals try (have w := e15 ‹_›; have w5 := l5 w)
  all_goals try (have w := e16 ‹_›; have w5 := l5 w)
  all_goals try have w := e0 ‹_› ‹_›
  all_goals try (first
    | have dd := L1 ‹_›
    | have dd := L2 ‹_› ‹_› ‹_›
    | have dd := L3 ‹_› ‹_› ‹_›
    | have dd := L4 ‹_› ‹_› w
    | have dd := L5 ‹_› ‹_› w)
  all_goals try rw [dd.1]
  all_goals try rw [dd.2]
  all_goals first
    | assumption
    | omega
    | rfl
    | (have f1 := ‹(q.fc == 15) = true›; have f2 := ‹(q.fc == 15) = false›; rw [f1] at f2; cases f2; done)
    | exact beqz _ _ (fun h => by omega)
    | (simp only [inC, Bool.and_eq_true, decide_eq_true_eq]; omega)
    | (simp [cutOff]; done)
    | (simp only [List.length_append, List.length_cons, List.length_nil, bN_length, wN_length] <;> omega)
    | (rw [List.take_of_length_le (Nat.le_of_eq (bN_length _ _))]; rfl)
    | (rw [List.take_of_length_le (Nat.le_of_eq (wN_length _ _))]; rfl)
    | (simp only [bN_length]; omega)
    | (simp only [wN_length]; omega)
theorem puta_ok : CtOk Try.prog 20 PutAS.ct := Sp.ok Γh_ok hm Try.func20 PutAS PutAS_found (fun _ _ _ => none) (fun x h => puta_vc x.1.1 x.1.2.1 x.1.2.2 x.2 h.1 h.2.1 h.2.2.1 h.2.2.2.1 h.2.2.2.2)
end Go.Wk.P05
