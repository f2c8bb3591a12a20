/-
  What bytes tell; under the rows' own bounds.
-/
import Derived.Test.YtmbeekfbnfndgaaRd
namespace Go.Wk.P05
open Go Go.Vs Go.Proofs Go.Wk.P04
set_option linter.unusedSimpArgs false
set_option linter.unusedVariables false
set_option maxRecDepth 10000

/-! get -/
def and128 (a : Int) : Int := IntKind.u8.wrap ↑(BitVec.ofInt IntKind.u8.bits a &&& BitVec.ofInt IntKind.u8.bits 128).toNat
def isEx (x : SS) : Bool := ((x.n : Int) == 2) && decide (and128 (x.get 0) > 0)
def hd2 (x : SS) : H4 := ⟨x.nl, x.off + cutOff x.cap (Int.toNat 2), x.n - 2, x.cap - 2⟩
theorem at2_fold (x : SS) : SS.mk x.nl x.rw (x.off + cutOff x.cap (Int.toNat 2)) (x.n - 2) (x.cap - 2) x.room x.m x.l = atHd x (hd2 x) := rfl
def gcode (x : SS) : Int := bif isEx x then IntKind.i64.wrap (x.get 1) else 0
def gnone (q : Rq) (x : SS) : Bool := isEx x || (!isReads q.fc || decide ((x.n : Int) < 2))
def gvals (q : Rq) (x : SS) : List Int := bif gnone q x then [] else bif rbits q.fc then ub (atHd x (hd2 x)) q.qty else uwT (atHd x (hd2 x))
def gnl (q : Rq) (x : SS) : Bool := bif gnone q x then true else bif rbits q.fc then !inU q.qty else Nat.beq ((x.n - 2) / 2) 0
noncomputable def Γj : Cts := Γi.add 9 (RputS.ct.nil 44 .u16)
theorem Γj_ok : CtsOk Try.prog Γj := Γi_ok.add (rput_ok.nil _ _) Try.func9 (by kernel_rfl) (by kernel_rfl)
def GetAS : Sp where
  X := (Rq × Bool × Bool) × SS
  Y := fun _ => Nat × Nat
  y0 := fun _ => (0, 0)
  pat := fun x => ([akV x.1.1 x.1.2.1 x.1.2.2 0, ssV x.2 1], [some (wO x.1.1.v), some (bO x.2)])
  fnd := fun args H => match args with
    | [v, w] => (match fndA v H, fndS 5 .u8 w H with | some (q, b), some (p, c) => some ((q, p), [b, c]) | _, _ => none)
    | _ => none
  pre := fun x => BOk x.2 ∧ x.1.2.1 = isReads x.1.1.fc ∧ x.1.2.2 = rbits x.1.1.fc
  res := fun x y => ⟨.agg [iv (gcode x.2), .sl (gnl x.1.1 x.2) 2 1 0 (gvals x.1.1 x.2).length ((gvals x.1.1 x.2).length + y.1)], [], [wvO (gvals x.1.1 x.2).length y (gvals x.1.1 x.2)]⟩
  pick := fun x v H => match v with
    | .agg [_, s] => (pkO (gvals x.1.1 x.2).length s H).map fun (y, b) => (y, [0, 1, b])
    | _ => none
theorem GetAS_found : GetAS.spec.Found := by
  intro args H x σ h
  simp only [Sp.spec, GetAS] at h
  split at h
  rotate_left
  · cases h
  split at h
  rotate_left
  · cases h
  rename_i q b p c hq hp
  cases h
  obtain ⟨rfl, h2⟩ := fndA_found hq
  obtain ⟨rfl, h3⟩ := fndS_found hp
  exact ⟨rfl, fun i ao hi => by
    match i, hi with
    | 0, hi => obtain rfl := Option.some.inj (Option.some.inj hi); exact h2
    | 1, hi => obtain rfl := Option.some.inj (Option.some.inj hi); exact h3⟩
set_option maxRecDepth 100000 in
theorem geta_nf (q : Rq) (rd : Bool) (bt : Bool) (x : SS) : (fnV Try.prog Γj (fun (x : Code) (x_1 : AS) => none) Try.f21 [akV q rd bt 0, ssV x 1] [some (wO (Rq.v q)), some (bO x)] (Sp.good GetAS ((q, rd, bt), x))) = (let q_1 := Bif (!rd) (((AV.val (Value.int IntKind.i64 0) = AV.val (Value.int IntKind.i64 (gcode x)) ∧ (gnl q x = true ∧ List.length (gvals q x) = 0 ∧ List.length (gvals q x) + (0 - List.length (gvals q x)) = 0) ∧ True) ∧ True) ∧ Bif (AO.deadB (wO (Rq.v q))) True (AO.arr (SS.rw (Rq.v q)) 44 (SS.room (Rq.v q)) (SS.m (Rq.v q)) [Col.int IntKind.u16 (SS.l (Rq.v q))] = AO.arr (SS.rw (Rq.v q)) 44 (SS.room (Rq.v q)) (SS.m (Rq.v q)) [Col.int IntKind.u16 (SS.l (Rq.v q))]) ∧ Bif (AO.deadB (bO x)) True (AO.arr (SS.rw x) 5 (SS.room x) (SS.m x) [Col.int IntKind.u8 (SS.l x)] = AO.arr (SS.rw x) 5 (SS.room x) (SS.m x) [Col.int IntKind.u8 (SS.l x)]) ∧ Bif (AO.deadB (wvO (List.length (gvals q x)) (0 - List.length (gvals q x), 0) (gvals q x))) True False ∧ True) (Bif bt (Bif (inC 2 (SS.n x) && (decide (SS.cap x = 2) || Nat.blt 0 (SS.room x))) (BOk (SS.mk (SS.nl x) (SS.rw x) (SS.off x + cutOff (SS.cap x) (Int.toNat 2)) (SS.n x - 2) (SS.cap x - 2) (SS.room x) (SS.m x) (SS.l x)) ∧ ∀ (x_1 : Nat × Nat), let q_1 := SS.mk (SS.nl x) (SS.rw x) (SS.off x + cutOff (SS.cap x) (Int.toNat 2)) (SS.n x - Int.toNat 2) (SS.cap x - Int.toNat 2) (SS.room x) (SS.m x) (SS.l x); let q_2 := lenU (Rq.qty q) + Prod.fst x_1 + Prod.snd x_1 - (lenU (Rq.qty q) + Prod.fst x_1); let q_3 := List.length (gvals q x) + (lenU (Rq.qty q) + Prod.fst x_1 - List.length (gvals q x)); let q_4 := lenU (Rq.qty q) + Prod.fst x_1; let q_5 := AO.arr (SS.rw (Rq.v q)) 44 (SS.room (Rq.v q)) (SS.m (Rq.v q)) [Col.int IntKind.u16 (SS.l (Rq.v q))]; let q_6 := AO.arr (SS.rw x) 5 (SS.room x) (SS.m x) [Col.int IntKind.u8 (SS.l x)]; ((AV.val (Value.int IntKind.i64 0) = AV.val (Value.int IntKind.i64 (gcode x)) ∧ AV.sl (!inU (Rq.qty q)) 6 1 0 (lenU (Rq.qty q)) q_4 = AV.sl (gnl q x) 6 1 0 (List.length (gvals q x)) q_3 ∧ True) ∧ True) ∧ Bif (AO.deadB (wO (Rq.v q))) True (q_5 = q_5) ∧ Bif (AO.deadB (bO x)) True (q_6 = q_6) ∧ Bif (AO.deadB (wvO (List.length (gvals q x)) (q_4 - List.length (gvals q x), q_2) (gvals q x))) True (AO.arr true 44 (q_4 + Prod.snd x_1) (lenU (Rq.qty q)) [Col.int IntKind.u16 (uL q_1 (lenU (Rq.qty q)) (topU q_1 (Rq.qty q)))] = AO.arr true 44 (q_3 + q_2) (List.length (gvals q x)) [Col.int IntKind.u16 (gvals q x)]) ∧ True) False) (Bif (inC 2 (SS.n x) && (decide (SS.cap x = 2) || Nat.blt 0 (SS.room x))) (BOk (SS.mk (SS.nl x) (SS.rw x) (SS.off x + cutOff (SS.cap x) (Int.toNat 2)) (SS.n x - 2) (SS.cap x - 2) (SS.room x) (SS.m x) (SS.l x)) ∧ ∀ (x_1 : Nat × Nat), let q_1 := (SS.n x - Int.toNat 2) / 2 + Prod.fst x_1; let q_2 := (SS.n x - Int.toNat 2) / 2; let q_3 := List.length (gvals q x) + (q_1 - List.length (gvals q x)); let q_4 := AO.arr (SS.rw (Rq.v q)) 44 (SS.room (Rq.v q)) (SS.m (Rq.v q)) [Col.int IntKind.u16 (SS.l (Rq.v q))]; let q_5 := q_1 + Prod.snd x_1 - q_1; let q_6 := AO.arr (SS.rw x) 5 (SS.room x) (SS.m x) [Col.int IntKind.u8 (SS.l x)]; ((AV.val (Value.int IntKind.i64 0) = AV.val (Value.int IntKind.i64 (gcode x)) ∧ AV.sl (Nat.beq q_2 0) 4 1 0 q_2 q_1 = AV.sl (gnl q x) 4 1 0 (List.length (gvals q x)) q_3 ∧ True) ∧ True) ∧ Bif (AO.deadB (wO (Rq.v q))) True (q_4 = q_4) ∧ Bif (AO.deadB (bO x)) True (q_6 = q_6) ∧ Bif (AO.deadB (wvO (List.length (gvals q x)) (q_1 - List.length (gvals q x), q_5) (gvals q x))) True (AO.arr true 44 (q_1 + Prod.snd x_1) q_2 [Col.int IntKind.u16 (uwT (SS.mk (SS.nl x) (SS.rw x) (SS.off x + cutOff (SS.cap x) (Int.toNat 2)) (SS.n x - Int.toNat 2) (SS.cap x - Int.toNat 2) (SS.room x) (SS.m x) (SS.l x)))] = AO.arr true 44 (q_3 + q_5) (List.length (gvals q x)) [Col.int IntKind.u16 (gvals q x)]) ∧ True) False)); let q_2 := Bif (inC 2 (SS.n x) && (decide (SS.cap x = 2) || Nat.blt 0 (SS.room x))) (BOk (SS.mk (SS.nl x) (SS.rw x) (SS.off x + cutOff (SS.cap x) (Int.toNat 2)) (SS.n x - 2) (SS.cap x - 2) (SS.room x) (SS.m x) (SS.l x)) ∧ ∀ (x_1 : Nat × Nat), let q_2 := SS.mk (SS.nl x) (SS.rw x) (SS.off x + cutOff (SS.cap x) (Int.toNat 2)) (SS.n x - Int.toNat 2) (SS.cap x - Int.toNat 2) (SS.room x) (SS.m x) (SS.l x); let q_3 := lenU (Rq.qty q) + Prod.fst x_1 + Prod.snd x_1 - (lenU (Rq.qty q) + Prod.fst x_1); let q_4 := List.length (gvals q x) + (lenU (Rq.qty q) + Prod.fst x_1 - List.length (gvals q x)); let q_5 := lenU (Rq.qty q) + Prod.fst x_1; let q_6 := AO.arr (SS.rw (Rq.v q)) 44 (SS.room (Rq.v q)) (SS.m (Rq.v q)) [Col.int IntKind.u16 (SS.l (Rq.v q))]; let q_7 := AO.arr (SS.rw x) 5 (SS.room x) (SS.m x) [Col.int IntKind.u8 (SS.l x)]; ((AV.val (Value.int IntKind.i64 0) = AV.val (Value.int IntKind.i64 (gcode x)) ∧ AV.sl (!inU (Rq.qty q)) 6 1 0 (lenU (Rq.qty q)) q_5 = AV.sl (gnl q x) 6 1 0 (List.length (gvals q x)) q_4 ∧ True) ∧ True) ∧ Bif (AO.deadB (wO (Rq.v q))) True (q_6 = q_6) ∧ Bif (AO.deadB (bO x)) True (q_7 = q_7) ∧ Bif (AO.deadB (wvO (List.length (gvals q x)) (q_5 - List.length (gvals q x), q_3) (gvals q x))) True (AO.arr true 44 (q_5 + Prod.snd x_1) (lenU (Rq.qty q)) [Col.int IntKind.u16 (uL q_2 (lenU (Rq.qty q)) (topU q_2 (Rq.qty q)))] = AO.arr true 44 (q_4 + q_3) (List.length (gvals q x)) [Col.int IntKind.u16 (gvals q x)]) ∧ True) False; let q_3 := ((AV.val (Value.int IntKind.i64 0) = AV.val (Value.int IntKind.i64 (gcode x)) ∧ (gnl q x = true ∧ List.length (gvals q x) = 0 ∧ List.length (gvals q x) + (0 - List.length (gvals q x)) = 0) ∧ True) ∧ True) ∧ Bif (AO.deadB (wO (Rq.v q))) True (AO.arr (SS.rw (Rq.v q)) 44 (SS.room (Rq.v q)) (SS.m (Rq.v q)) [Col.int IntKind.u16 (SS.l (Rq.v q))] = AO.arr (SS.rw (Rq.v q)) 44 (SS.room (Rq.v q)) (SS.m (Rq.v q)) [Col.int IntKind.u16 (SS.l (Rq.v q))]) ∧ Bif (AO.deadB (bO x)) True (AO.arr (SS.rw x) 5 (SS.room x) (SS.m x) [Col.int IntKind.u8 (SS.l x)] = AO.arr (SS.rw x) 5 (SS.room x) (SS.m x) [Col.int IntKind.u8 (SS.l x)]) ∧ Bif (AO.deadB (wvO (List.length (gvals q x)) (0 - List.length (gvals q x), 0) (gvals q x))) True False ∧ True; let q_4 := (SS.n x - Int.toNat 2) / 2; let q_5 := AO.arr (SS.rw (Rq.v q)) 44 (SS.room (Rq.v q)) (SS.m (Rq.v q)) [Col.int IntKind.u16 (SS.l (Rq.v q))]; let q_6 := [Col.int IntKind.u16 (uwT (SS.mk (SS.nl x) (SS.rw x) (SS.off x + cutOff (SS.cap x) (Int.toNat 2)) (SS.n x - Int.toNat 2) (SS.cap x - Int.toNat 2) (SS.room x) (SS.m x) (SS.l x)))]; let q_7 := IntKind.wrap IntKind.u8 (↑(BitVec.toNat (BitVec.ofInt (IntKind.bits IntKind.u8) (List.getD (SS.l x) (SS.off x + Int.toNat 0) 0) &&& BitVec.ofInt (IntKind.bits IntKind.u8) 128)) : Int); let q_8 := AO.arr (SS.rw x) 5 (SS.room x) (SS.m x) [Col.int IntKind.u8 (SS.l x)]; let q_9 := BOk (SS.mk (SS.nl x) (SS.rw x) (SS.off x + cutOff (SS.cap x) (Int.toNat 2)) (SS.n x - 2) (SS.cap x - 2) (SS.room x) (SS.m x) (SS.l x)); let q_10 := decide (SS.off x + 0 < SS.m x); let q_11 := decide (SS.off x + 1 < SS.m x); let q_12 := inC 2 (SS.n x) && (decide (SS.cap x = 2) || Nat.blt 0 (SS.room x)); let q_13 := decide ((↑(SS.n x) : Int) < 2); let q_14 := 0 - List.length (gvals q x); let q_15 := AV.val (Value.int IntKind.i64 0) = AV.val (Value.int IntKind.i64 (gcode x)); let q_16 := [Col.int IntKind.u16 (gvals q x)]; Bif ((↑(SS.n x) : Int) == 2) (Bif (!SS.nl x && (inR 0 (SS.n x) && q_10)) (Bif q_10 (Bif (decide (q_7 > 0)) (Bif (!SS.nl x && (inR 1 (SS.n x) && q_11)) (Bif q_11 (((AV.val (Value.int IntKind.i64 (IntKind.wrap IntKind.i64 (List.getD (SS.l x) (SS.off x + Int.toNat 1) 0))) = AV.val (Value.int IntKind.i64 (gcode x)) ∧ (gnl q x = true ∧ List.length (gvals q x) = 0 ∧ List.length (gvals q x) + q_14 = 0) ∧ True) ∧ True) ∧ Bif (AO.deadB (wO (Rq.v q))) True (q_5 = q_5) ∧ Bif (AO.deadB (bO x)) True (q_8 = q_8) ∧ Bif (AO.deadB (wvO (List.length (gvals q x)) (q_14, 0) (gvals q x))) True False ∧ True) False) False) (Bif (!rd) q_1 (Bif q_13 q_3 (Bif bt q_2 (Bif q_12 (q_9 ∧ ∀ (x_1 : Nat × Nat), let q_17 := q_4 + Prod.fst x_1; let q_18 := q_4; let q_19 := List.length (gvals q x) + (q_17 - List.length (gvals q x)); let q_20 := q_5; let q_21 := q_17 + Prod.snd x_1 - q_17; let q_22 := q_8; ((q_15 ∧ AV.sl (Nat.beq q_18 0) 4 1 0 q_18 q_17 = AV.sl (gnl q x) 4 1 0 (List.length (gvals q x)) q_19 ∧ True) ∧ True) ∧ Bif (AO.deadB (wO (Rq.v q))) True (q_20 = q_20) ∧ Bif (AO.deadB (bO x)) True (q_22 = q_22) ∧ Bif (AO.deadB (wvO (List.length (gvals q x)) (q_17 - List.length (gvals q x), q_21) (gvals q x))) True (AO.arr true 44 (q_17 + Prod.snd x_1) q_18 q_6 = AO.arr true 44 (q_19 + q_21) (List.length (gvals q x)) q_16) ∧ True) False))))) False) False) (Bif (!rd) q_1 (Bif q_13 q_3 (Bif bt q_2 (Bif q_12 (q_9 ∧ ∀ (x_1 : Nat × Nat), let q_17 := q_4 + Prod.fst x_1; let q_18 := q_4; let q_19 := List.length (gvals q x) + (q_17 - List.length (gvals q x)); let q_20 := q_5; let q_21 := q_8; let q_22 := q_17 + Prod.snd x_1 - q_17; ((q_15 ∧ AV.sl (Nat.beq q_18 0) 4 1 0 q_18 q_17 = AV.sl (gnl q x) 4 1 0 (List.length (gvals q x)) q_19 ∧ True) ∧ True) ∧ Bif (AO.deadB (wO (Rq.v q))) True (q_20 = q_20) ∧ Bif (AO.deadB (bO x)) True (q_21 = q_21) ∧ Bif (AO.deadB (wvO (List.length (gvals q x)) (q_17 - List.length (gvals q x), q_22) (gvals q x))) True (AO.arr true 44 (q_17 + Prod.snd x_1) q_18 q_6 = AO.arr true 44 (q_19 + q_22) (List.length (gvals q x)) q_16) ∧ True) False))))) := by kernel_rfl
set_option maxHeartbeats 1000000 in
theorem geta_vc (q : Rq) (rd bt : Bool) (x : SS) (hx : BOk x) (h1 : rd = isReads q.fc) (h2 : bt = rbits q.fc) : FnV Try.prog Γj (fun _ _ => none) Try.f21 [akV q rd bt 0, ssV x 1] [some (wO q.v), some (bO x)] (GetAS.good ((q, rd, bt), x)) := by
  have hnl := hx.nl0
  have hx' := hx
  have hat : ¬ (x.n : Int) < 2 → BOk (atHd x (hd2 x)) := fun hn => by
    obtain ⟨g1, g2, g3, g4, g5, g6, g7⟩ := hx
    refine ⟨g1, ?_, ?_, ?_, ?_, ?_, ?_⟩ <;> simp only [atHd, hd2]
    · unfold cutOff; split <;> omega
    · omega
    · omega
    · unfold cutOff; split <;> omega
    · intro h; have := g6 h; omega
    · intro i hi; have := g7 (i + 2) (by omega); rw [show x.off + cutOff x.cap (Int.toNat 2) + i = x.off + (i + 2) by unfold cutOff; split <;> omega]; exact this
  have x1 : ((x.n : Int) == 2) = true → and128 (x.get 0) > 0 → isEx x = true := fun h h' => by simp only [isEx, h, decide_eq_true h', Bool.and_self]
  have x2 : ((x.n : Int) == 2) = true → ¬ and128 (x.get 0) > 0 → isEx x = false := fun h h' => by simp only [isEx, decide_eq_false h', Bool.and_false]
  have x3 : ((x.n : Int) == 2) = false → isEx x = false := fun h => by simp only [isEx, h, Bool.false_and]
  have g1 : isEx x = true → gnone q x = true := fun h => by simp only [gnone, h, Bool.true_or]
  have g2 : rd = false → gnone q x = true := fun h => by rw [h1] at h; simp only [gnone, h, Bool.not_false, Bool.true_or, Bool.or_true]
  have g3 : (x.n : Int) < 2 → gnone q x = true := fun h => by simp only [gnone, decide_eq_true h, Bool.or_true]
  have g4 : isEx x = false → rd = true → ¬ (x.n : Int) < 2 → gnone q x = false := fun h h' h3 => by rw [h1] at h'; simp only [gnone, h, h', decide_eq_false h3, Bool.not_true, Bool.or_false]
  have v1 : gnone q x = true → gvals q x = [] ∧ gnl q x = true := fun h => by simp only [gvals, gnl, h, cond_true, and_self]
  have v2 : gnone q x = false → bt = true → gvals q x = ub (atHd x (hd2 x)) q.qty ∧ gnl q x = !inU q.qty := fun h h' => by rw [h2] at h'; simp only [gvals, gnl, h, h', cond_true, cond_false, and_self]
  have v3 : gnone q x = false → bt = false → gvals q x = uwT (atHd x (hd2 x)) ∧ gnl q x = Nat.beq ((x.n - 2) / 2) 0 := fun h h' => by rw [h2] at h'; simp only [gvals, gnl, h, h', cond_false, and_self]
  have w1 : isEx x = true → gcode x = IntKind.i64.wrap (x.get 1) := fun h => by simp only [gcode, h, cond_true]
  have w2 : isEx x = false → gcode x = 0 := fun h => by simp only [gcode, h, cond_false]
  have n2 : ((x.n : Int) == 2) = true → ¬ (x.n : Int) < 2 := fun h => by have := eq_of_beq h; omega
  have ul : (uwT (atHd x (hd2 x))).length = (x.n - 2) / 2 := tab_length ..
  have ubl := ub_length (atHd x (hd2 x)) q.qty
  obtain ⟨k1, k2, k3, k4, k5, k6, k7⟩ := hx
  refine FnV.of (geta_nf _ _ _ _) ?_
  clear h1 h2
  all_goals try simp only [Bif_need, Bif_True]
  all_goals try simp only [Bif_iff, eq_self, and_true, true_and, AV.val.injEq, AV.agg.injEq, AV.tup.injEq, AV.sl.injEq, AV.ptr.injEq, AV.mp.injEq, Value.int.injEq, Value.bool.injEq, Value.string.injEq, AO.cells.injEq, AO.arr.injEq, AO.mapc.injEq, List.cons.injEq, Col.bool.injEq, Col.int.injEq, Col.str.injEq, MCol.int.injEq, MCol.bool.injEq, MCol.str.injEq, decide_eq_true_eq, decide_eq_false_iff_not, Nat.zero_add, Nat.add_zero, implies_true, Bool.and_eq_true, inR_iff, List.drop_zero, List.take_nil, List.drop_nil, List.nil_append, Int.toNat_natCast, longEnough, colLen, Bool.not_true, Bool.not_false, Bool.true_or, Bool.or_eq_true, Bool.not_eq_true', Bool.not_eq_false', take_take_self, take_tab, one_col, tab_length, mix_length, List.length_take, Nat.min_eq_left, List.set_cons_zero, blt01, Bool.and_false, Bool.and_true, Bool.false_and, Bool.true_and, Bool.false_eq_true, Bool.true_eq_false, false_and, and_false, false_implies]
  all_goals repeat' (first | apply And.intro | intro (⟨k, c, r⟩ : Nat × Nat × Nat) | intro _)
  all_goals try dsimp only at *
  all_goals try omega
  all_goals try simp only [at2_fold]
  all_goals try have nn := n2 ‹_›
  all_goals try (first
    | have ex := x1 ‹_› ‹_›
    | have ex := x2 ‹_› ‹_›
    | have ex := x3 ‹_›)
  all_goals try (first
    | have gn := g1 ex
    | have gn := g2 ‹_›
    | have gn := g3 ‹_›
    | have gn := g4 ex ‹_› ‹_›)
  all_goals try (first
    | have gv := v1 gn
    | have gv := v2 gn ‹_›
    | have gv := v3 gn ‹_›)
  all_goals try rw [gv.1]
  all_goals try rw [gv.2]
  all_goals first
    | assumption
    | omega
    | rfl
    | (have f1 := ‹rd = true›; have f2 := ‹rd = false›; rw [f1] at f2; cases f2; done)
    | exact hnl (by omega)
    | exact hat (by omega)
    | (rw [Nat.blt_eq]; omega)
    | (simp only [inC, Bool.and_eq_true, decide_eq_true_eq]; omega)
    | exact (w1 ex).symm
    | exact (w2 ex).symm
theorem geta_ok : CtOk Try.prog 21 GetAS.ct := Sp.ok Γj_ok hm Try.func21 GetAS GetAS_found (fun _ _ _ => none) (fun x h => geta_vc x.1.1 x.1.2.1 x.1.2.2 x.2 h.1 h.2.1 h.2.2)
end Go.Wk.P05
