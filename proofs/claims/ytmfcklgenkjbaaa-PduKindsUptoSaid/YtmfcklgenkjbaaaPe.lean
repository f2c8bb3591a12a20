/-
  The reader of words; under the rows' own bounds.
-/
import Derived.Test.YtmfcklgenkjbaaaPd
namespace Go.Wk.P04
open Go Go.Vs Go.Proofs
set_option linter.unusedSimpArgs false
set_option linter.unusedVariables false
set_option maxRecDepth 10000

/-! the reader -/
def shortW (x : SS) : Bool := decide (x.n < 2)
/-- A slice's head. -/
structure H4 where
  nl : Bool
  off : Nat
  n : Nat
  cap : Nat
def nextH (h : H4) : H4 := bif decide (h.n < 2) then ⟨true, 0, 0, 0⟩ else ⟨h.nl, h.off + cutOff h.cap 2, h.n - 2, h.cap - 2⟩
def nextW (x : SS) : SS := { x with nl := (nextH ⟨x.nl, x.off, x.n, x.cap⟩).nl, off := (nextH ⟨x.nl, x.off, x.n, x.cap⟩).off, n := (nextH ⟨x.nl, x.off, x.n, x.cap⟩).n, cap := (nextH ⟨x.nl, x.off, x.n, x.cap⟩).cap }
theorem nextW_short {x : SS} (h : shortW x = true) : nextW x = { x with nl := true, off := 0, n := 0, cap := 0 } := by
  simp only [nextW, nextH, show decide (x.n < 2) = true from h, cond_true]
theorem nextW_long {x : SS} (h : shortW x = false) : nextW x = { x with off := x.off + cutOff x.cap 2, n := x.n - 2, cap := x.cap - 2 } := by
  simp only [nextW, nextH, show decide (x.n < 2) = false from h, cond_false]
def wor (a b : Int) : Int := IntKind.i64.wrap ↑(BitVec.ofInt IntKind.i64.bits (IntKind.i64.wrap (IntKind.i64.wrap a * 2 ^ min (Int.toNat 8) IntKind.i64.bits)) ||| BitVec.ofInt IntKind.i64.bits (IntKind.i64.wrap b)).toNat
def wordW (x : SS) : Int := bif shortW x then 0 else wor (x.get 0) (x.get 1)
theorem nextW_ok {x : SS} (h : BOk x) : BOk (nextW x) := by
  obtain ⟨h1, h2, h3, h4, h5, h6, h7⟩ := h
  cases hs : shortW x with
  | true =>
    refine ⟨?_, ?_, ?_, ?_, ?_, ?_, ?_⟩ <;> simp only [nextW_short hs] <;> first | exact h1 | omega | (intro i hi; omega) | exact fun _ => rfl | exact fun _ => trivial | simp
  | false =>
    have := of_decide_eq_false hs
    refine ⟨?_, ?_, ?_, ?_, ?_, ?_, ?_⟩ <;> simp only [nextW_long hs]
    · exact h1
    · unfold cutOff; split <;> omega
    · omega
    · omega
    · unfold cutOff; split <;> omega
    · intro h; have := h6 h; omega
    · intro i hi; have := h7 (i + 2) (by omega); rw [show x.off + cutOff x.cap 2 + i = x.off + (i + 2) by unfold cutOff; split <;> omega]; exact this
abbrev rcO (x : SS) : AO := .cells true 58 [ssV x 1]
def fndR (args : List AV) (H : AHeap) : Option (SS × List Nat) := match args with
  | [.ptr r 0] => (match (H[r]? : Option (Option AO)) with
    | some (some (.cells true 58 [v])) => (match fndS 5 .u8 v H with | some (t, c) => some (t, [r, c]) | _ => none)
    | _ => none)
  | _ => none
def WordS : Sp where
  X := SS
  Y := fun _ => Unit
  y0 := fun _ => ()
  pat := fun x => ([.ptr 0 0], [some (rcO x), some (bO x)])
  fnd := fndR
  pre := BOk
  res := fun x _ => ⟨iv (wordW x), [(0, some (rcO (nextW x)))], []⟩
  pick := fun _ _ _ => some ((), [0, 1])
theorem fndR_found {args : List AV} {H : AHeap} {x : SS} {σ : List Nat} (h : fndR args H = some (x, σ)) : args = AV.rens σ [.ptr 0 0] ∧ ∀ (i : Nat) (ao : AO), [some (rcO x), some (bO x)][i]? = some (some ao) → H[ren1 σ i]? = some (some (ao.ren σ)) := by
  unfold fndR at h
  split at h
  rotate_left
  · cases h
  split at h
  rotate_left
  · cases h
  rename_i v h1
  split at h
  rotate_left
  · cases h
  rename_i t c ht
  cases h
  obtain ⟨rfl, h3⟩ := fndS_found ht
  exact ⟨rfl, fun i ao hi => by
    match i, hi with
    | 0, hi => obtain rfl := Option.some.inj (Option.some.inj hi); exact h1
    | 1, hi => obtain rfl := Option.some.inj (Option.some.inj hi); exact h3⟩
theorem WordS_found : WordS.spec.Found := fun _ _ _ _ h => fndR_found h
set_option maxRecDepth 100000 in
theorem word_nf (t : SS) : (fnV Try.prog Γnone (fun (x : Code) (x_1 : AS) => none) Try.f30 [AV.ptr 0 0] [some (rcO t), some (bO t)] (Sp.good WordS t)) = (let q := Bif (AO.deadB (bO t)) True (AO.arr (SS.rw t) 5 (SS.room t) (SS.m t) [Col.int IntKind.u8 (SS.l t)] = AO.arr (SS.rw t) 5 (SS.room t) (SS.m t) [Col.int IntKind.u8 (SS.l t)]) ∧ True;
let q_1 := decide (SS.off t + 1 < SS.m t);
let q_2 := decide (SS.off t + 0 < SS.m t);
let q_3 := nextH (H4.mk (SS.nl t) (SS.off t) (SS.n t) (SS.cap t));
let q_4 := 58 = 58;
Bif (decide ((↑(SS.n t) : Int) < 2)) ((AV.val (Value.int IntKind.i64 0) = AV.val (Value.int IntKind.i64 (wordW t)) ∧ True) ∧ (true = true ∧ q_4 ∧ (H4.nl q_3 = true ∧ H4.n q_3 = 0 ∧ H4.cap q_3 = 0) ∧ True) ∧ q) (Bif (!SS.nl t && (inR 0 (SS.n t) && q_2)) (Bif q_2 (Bif (!SS.nl t && (inR 1 (SS.n t) && q_1)) (Bif q_1 (Bif (inC 2 (SS.n t) && (decide (SS.cap t = 2) || Nat.blt 0 (SS.room t))) ((AV.val (Value.int IntKind.i64 (IntKind.wrap IntKind.i64 (↑(BitVec.toNat (BitVec.ofInt (IntKind.bits IntKind.i64) (IntKind.wrap IntKind.i64 (IntKind.wrap IntKind.i64 (List.getD (SS.l t) (SS.off t + Int.toNat 0) 0) * 2 ^ min (Int.toNat 8) (IntKind.bits IntKind.i64))) ||| BitVec.ofInt (IntKind.bits IntKind.i64) (IntKind.wrap IntKind.i64 (List.getD (SS.l t) (SS.off t + Int.toNat 1) 0)))) : Int))) = AV.val (Value.int IntKind.i64 (wordW t)) ∧ True) ∧ (true = true ∧ q_4 ∧ AV.sl (SS.nl t) 1 1 (SS.off t + cutOff (SS.cap t) (Int.toNat 2)) (SS.n t - 2) (SS.cap t - 2) = AV.sl (H4.nl q_3) 1 1 (H4.off q_3) (H4.n q_3) (H4.cap q_3) ∧ True) ∧ q) False) False) False) False) False)) := by kernel_rfl
set_option maxHeartbeats 1000000 in
theorem word_vc (t : SS) (ht : BOk t) : FnV Try.prog Γnone (fun _ _ => none) Try.f30 [.ptr 0 0] [some (rcO t), some (bO t)] (WordS.good t) := by
  have hn2 := ht.nl0
  obtain ⟨k1, k2, k3, k4, k5, k6, k7⟩ := ht
  have e1 : t.n < 2 → shortW t = true := fun h => decide_eq_true h
  have e2 : ¬ t.n < 2 → shortW t = false := fun h => decide_eq_false h
  refine FnV.of (word_nf _) ?_
  all_goals try simp only [Bif_need, Bif_True]
  all_goals try simp only [Bif_iff, eq_self, and_true, true_and, AV.val.injEq, AV.agg.injEq, AV.tup.injEq, AV.sl.injEq, AV.ptr.injEq, AV.mp.injEq, Value.int.injEq, Value.bool.injEq, Value.string.injEq, AO.cells.injEq, AO.arr.injEq, AO.mapc.injEq, List.cons.injEq, Col.bool.injEq, Col.int.injEq, Col.str.injEq, MCol.int.injEq, MCol.bool.injEq, MCol.str.injEq, decide_eq_true_eq, decide_eq_false_iff_not, Nat.zero_add, Nat.add_zero, implies_true, Bool.and_eq_true, inR_iff, List.drop_zero, List.take_nil, List.drop_nil, List.nil_append, Int.toNat_natCast, longEnough, colLen, Bool.not_true, Bool.not_false, Bool.true_or, Bool.or_eq_true, Bool.not_eq_true', Bool.not_eq_false', take_take_self, take_tab, one_col, tab_length, mix_length, List.length_take, Nat.min_eq_left, List.set_cons_zero, blt01, Bool.and_false, Bool.and_true, Bool.false_and, Bool.true_and, Bool.false_eq_true, Bool.true_eq_false, false_and, and_false, false_implies]
  all_goals repeat' (first | apply And.intro | intro (⟨k, c, r⟩ : Nat × Nat × Nat) | intro _)
  all_goals try dsimp only at *
  all_goals try omega
  all_goals first
    | omega
    | exact hn2 (by omega)
    | (have h := e1 (by omega); simp only [wordW, nextH, show decide (t.n < 2) = true from h, h, cond_true]; done)
    | (have h := e2 (by omega); simp only [wordW, nextH, show decide (t.n < 2) = false from h, h, cond_false]; done)
    | (have h := e2 (by omega); simp only [wordW, nextH, show decide (t.n < 2) = false from h, h, cond_false]; rfl)
    | (simp only [inC, Bool.and_eq_true, decide_eq_true_eq]; omega)
    | (simp only [Bool.or_eq_true, decide_eq_true_eq, Nat.blt_eq]; omega)
theorem word_ok : CtOk Try.prog 30 WordS.ct := Sp.ok CtsOk.none hm Try.func30 WordS WordS_found (fun _ _ _ => none) word_vc
/-! rest -/
def mW (x : SS) : Nat := min x.n 1
def restH (h : H4) : H4 := bif Nat.beq h.n 0 then h else ⟨h.nl, h.off + cutOff h.cap 1, h.n - 1, h.cap - 1⟩
def restW (x : SS) : SS := { x with nl := (restH ⟨x.nl, x.off, x.n, x.cap⟩).nl, off := (restH ⟨x.nl, x.off, x.n, x.cap⟩).off, n := (restH ⟨x.nl, x.off, x.n, x.cap⟩).n, cap := (restH ⟨x.nl, x.off, x.n, x.cap⟩).cap }
theorem restH_same (nl : Bool) (off n cap : Nat) : (restH ⟨nl, off, n, cap⟩).nl = nl ∧ (restH ⟨nl, off, n, cap⟩).n = n - min n 1 ∧ (restH ⟨nl, off, n, cap⟩).cap = cap - min n 1 ∧ (restH ⟨nl, off, n, cap⟩).off = off + cutOff cap (min n 1) := by
  unfold restH
  cases h : Nat.beq n 0 with
  | true =>
    have h0 : n = 0 := Nat.eq_of_beq_eq_true h
    have h1 : min n 1 = 0 := by rw [h0]; rfl
    refine ⟨rfl, ?_, ?_, ?_⟩ <;> simp only [cond_true, h1, Nat.sub_zero, cutOff, ite_self, Nat.add_zero]
  | false =>
    have h1 : min n 1 = 1 := by
      have : n ≠ 0 := fun e => by rw [e] at h; cases h
      omega
    refine ⟨rfl, ?_, ?_, ?_⟩ <;> simp only [cond_false, h1]
def RestS : Sp where
  X := SS
  Y := fun _ => Unit
  y0 := fun _ => ()
  pat := fun x => ([.ptr 0 0], [some (rcO x), some (bO x)])
  fnd := fndR
  pre := BOk
  res := fun x _ => ⟨ssV (restW x) 1, [], []⟩
  pick := fun _ _ _ => some ((), [0, 1])
theorem RestS_found : RestS.spec.Found := fun _ _ _ _ h => fndR_found h
set_option maxRecDepth 100000 in
theorem rest_nf (t : SS) : (fnV Try.prog Γnone (fun (x : Code) (x_1 : AS) => none) Try.f32 [AV.ptr 0 0] [some (rcO t), some (bO t)] (Sp.good RestS t)) = (let q := Int.toNat (if 1 < (↑(SS.n t) : Int) then 1 else (↑(SS.n t) : Int));
let q_1 := restH (H4.mk (SS.nl t) (SS.off t) (SS.n t) (SS.cap t));
let q_2 := AO.arr (SS.rw t) 5 (SS.room t) (SS.m t) [Col.int IntKind.u8 (SS.l t)];
let q_3 := AV.sl (SS.nl t) 1 1 (SS.off t) (SS.n t) (SS.cap t);
Bif (inC (if 1 < (↑(SS.n t) : Int) then 1 else (↑(SS.n t) : Int)) (SS.n t) && (Nat.beq q 0 || (decide (SS.cap t = q) || Nat.blt 0 (SS.room t)))) ((AV.sl (SS.nl t) 1 1 (SS.off t + cutOff (SS.cap t) q) (SS.n t - q) (SS.cap t - q) = AV.sl (H4.nl q_1) 1 1 (H4.off q_1) (H4.n q_1) (H4.cap q_1) ∧ True) ∧ (true = true ∧ 58 = 58 ∧ q_3 = q_3 ∧ True) ∧ Bif (AO.deadB (bO t)) True (q_2 = q_2) ∧ True) False) := by kernel_rfl
set_option maxHeartbeats 1000000 in
theorem rest_vc (t : SS) (ht : BOk t) : FnV Try.prog Γnone (fun _ _ => none) Try.f32 [.ptr 0 0] [some (rcO t), some (bO t)] (RestS.good t) := by
  have hn2 := ht.nl0
  obtain ⟨k1, k2, k3, k4, k5, k6, k7⟩ := ht
  have em : (if (1 : Int) < (t.n : Int) then (1 : Int) else (t.n : Int)) = (mW t : Int) := by simp only [mW]; split <;> omega
  have em1 : mW t ≤ t.n := by simp only [mW]; omega
  obtain ⟨r5, r6, r7, r8⟩ := restH_same t.nl t.off t.n t.cap
  refine FnV.of (rest_nf _) ?_
  all_goals try simp only [Bif_need, Bif_True]
  all_goals try simp only [Bif_iff, eq_self, and_true, true_and, AV.val.injEq, AV.agg.injEq, AV.tup.injEq, AV.sl.injEq, AV.ptr.injEq, AV.mp.injEq, Value.int.injEq, Value.bool.injEq, Value.string.injEq, AO.cells.injEq, AO.arr.injEq, AO.mapc.injEq, List.cons.injEq, Col.bool.injEq, Col.int.injEq, Col.str.injEq, MCol.int.injEq, MCol.bool.injEq, MCol.str.injEq, decide_eq_true_eq, decide_eq_false_iff_not, Nat.zero_add, Nat.add_zero, implies_true, Bool.and_eq_true, inR_iff, List.drop_zero, List.take_nil, List.drop_nil, List.nil_append, Int.toNat_natCast, longEnough, colLen, Bool.not_true, Bool.not_false, Bool.true_or, Bool.or_eq_true, Bool.not_eq_true', Bool.not_eq_false', take_take_self, take_tab, one_col, tab_length, mix_length, List.length_take, Nat.min_eq_left, List.set_cons_zero, blt01, Bool.and_false, Bool.and_true, Bool.false_and, Bool.true_and, Bool.false_eq_true, Bool.true_eq_false, false_and, and_false, false_implies, em]
  all_goals repeat' (first | apply And.intro | intro (⟨k, c, r⟩ : Nat × Nat × Nat) | intro _)
  all_goals try dsimp only at *
  all_goals try omega
  all_goals try simp only [em, Int.toNat_natCast]
  all_goals first
    | omega
    | exact r5.symm
    | exact r6.symm
    | exact r7.symm
    | exact r8.symm
    | rfl
    | (simp only [inC, Bool.and_eq_true, decide_eq_true_eq]; omega)
    | (rw [Nat.beq_eq]; simp only [Nat.blt_eq]; omega)
theorem rest_ok : CtOk Try.prog 32 RestS.ct := Sp.ok CtsOk.none hm Try.func32 RestS RestS_found (fun _ _ _ => none) rest_vc

/-! unwords -/
def uwN (f : Nat → Int) : Nat → List Int
  | 0 => []
  | k + 1 => uwN f k ++ [IntKind.u16.wrap (wor (f (2 * k)) (f (2 * k + 1)))]
def UnwordsS : Sp where
  X := SS
  Y := fun _ => Nat × Nat
  y0 := fun _ => (0, 0)
  pat := fun x => ([ssV x 0], [some (bO x)])
  fnd := fun args H => match args with
    | [w] => (match fndS 5 .u8 w H with | some (t, c) => some (t, [c]) | _ => none)
    | _ => none
  pre := BOk
  res := fun x y => ⟨.sl (Nat.beq (x.n / 2) 0) 1 1 0 (x.n / 2) (x.n / 2 + y.1), [], [.arr true 33 (x.n / 2 + y.1 + y.2) (x.n / 2) [.int .u16 (uwN x.get (x.n / 2))]]⟩
  pick := fun x v H => (pkO (x.n / 2) v H).map fun (y, b) => (y, [0, b])
theorem UnwordsS_found : UnwordsS.spec.Found := by
  intro args H x σ h
  simp only [Sp.spec, UnwordsS] at h
  split at h
  rotate_left
  · cases h
  split at h
  rotate_left
  · cases h
  rename_i t c ht
  cases h
  obtain ⟨rfl, h3⟩ := fndS_found ht
  exact ⟨rfl, fun i ao hi => by
    match i, hi with
    | 0, hi => obtain rfl := Option.some.inj (Option.some.inj hi); exact h3⟩
noncomputable def Γw : Cts := Γnone.add 30 WordS.ct
theorem Γw_ok : CtsOk Try.prog Γw := CtsOk.none.add word_ok Try.func30 (by kernel_rfl) (by kernel_rfl)
def advH (x : SS) : Nat → H4
  | 0 => ⟨x.nl, x.off, x.n, x.cap⟩
  | k + 1 => nextH (advH x k)
def advW (x : SS) (k : Nat) : SS := { x with nl := (advH x k).nl, off := (advH x k).off, n := (advH x k).n, cap := (advH x k).cap }
theorem advW_succ (x : SS) (k : Nat) : advW x (k + 1) = nextW (advW x k) := rfl
theorem advW_ok {x : SS} (h : BOk x) : ∀ k, BOk (advW x k)
  | 0 => h
  | k + 1 => nextW_ok (advW_ok h k)
theorem advW_at {x : SS} (h : BOk x) : ∀ k, 2 * k ≤ x.n → (advW x k).n = x.n - 2 * k ∧ (2 * k < x.n → ∀ j, (advW x k).get j = x.get (2 * k + j))
  | 0, _ => ⟨rfl, fun _ j => by simp [advW, advH, SS.get]⟩
  | k + 1, hk => by
    obtain ⟨h1, h2⟩ := advW_at h k (by omega)
    have hs : shortW (advW x k) = false := decide_eq_false (by omega)
    have hc := (advW_ok h k).cap
    refine ⟨by simp only [advW_succ, nextW_long hs]; omega, fun hlt j => ?_⟩
    have := h2 (by omega) (j + 2)
    rw [show 2 * (k + 1) + j = 2 * k + (j + 2) by omega, ← this]
    simp only [SS.get, advW_succ, nextW_long hs, cutOff]
    rw [if_neg (by omega)]
    congr 1; omega
theorem advW_word {x : SS} (h : BOk x) {k : Nat} (hk : 2 * k + 1 < x.n) : wordW (advW x k) = wor (x.get (2 * k)) (x.get (2 * k + 1)) := by
  obtain ⟨h1, h2⟩ := advW_at h k (by omega)
  have hs : shortW (advW x k) = false := decide_eq_false (by omega)
  simp only [wordW, hs, cond_false, h2 (by omega), Nat.add_zero]
theorem uwN_length (f : Nat → Int) (k : Nat) : (uwN f k).length = k := by
  induction k with
  | zero => rfl
  | succ k ih => simp [uwN, ih]
noncomputable def LUnwords (x : SS) : Loops := fun body s => match loopId body with
  | _ => some (mkLI Try.f31 body s (X := Nat × Nat × Nat) (0, 0, 0) [0, 1, 2] (fun (k, c, r) => 2 * k ≤ x.n ∧ (k = 0 → True → c = 0)) (fun (k, c, r) => x.n - 2 * k)
      (fun (k, c, r) => [(3, .sl (Nat.beq k 0) 2 1 0 k (k + c))])
      (fun (k, c, r) => [some (bO x), some (.cells true 58 [ssV (advW x k) 0]), some (.arr true 33 (k + c + r) k [.int .u16 (uwN x.get k)])])
      (fun (k, c, r) s => match Go.Vs.look s.env 3 with
        | some v => (pkO (k + 1) v s.heap).map fun ((c, r), b) => ((k + 1, c, r), [0, 1, b])
        | none => none))
set_option maxRecDepth 100000 in
theorem unwords_nf (t : SS) : (fnV Try.prog Γw (LUnwords t) Try.f31 [ssV t 0] [some (bO t)] (Sp.good UnwordsS t)) = (let q := AO.arr (SS.rw t) 5 (SS.room t) (SS.m t) [Col.int IntKind.u8 (SS.l t)];
let q_1 := AV.sl (SS.nl t) 0 1 (SS.off t) (SS.n t) (SS.cap t);
let q_2 := 0 = 0;
let q_3 := AV.val (Value.slice none 0 0);
let q_4 := AV.ptr 1 0;
let q_5 := advH t 0;
let q_6 := 58 = 58;
((0 ≤ SS.n t ∧ (q_2 → True → q_2)) ∧ ((true = true ∧ q_2 ∧ q_2) ∧ q_4 = q_4 ∧ q_3 = q_3 ∧ q_1 = q_1 ∧ True) ∧ Bif (AO.deadB q) True (q = q) ∧ (true = true ∧ q_6 ∧ q_1 = AV.sl (H4.nl q_5) 0 1 (H4.off q_5) (H4.n q_5) (H4.cap q_5) ∧ True) ∧ True ∧ True) ∧
  ∀ (x : Nat × Nat × Nat),
    let q_7 := x.1 + x.2.1;
    let q_8 := SS.n t / 2;
    let q_9 := x.1 = 0;
    2 * x.1 ≤ SS.n t ∧ (q_9 → True → x.2.1 = 0) →
      let q_10 := q_8 + (q_7 - q_8) + (q_7 + x.2.2 - q_7);
      let q_11 := q_8;
      let q := q;
      let q_12 := q_7;
      let q_13 := SS.mk (H4.nl (advH t x.1)) (SS.rw t) (H4.off (advH t x.1)) (H4.n (advH t x.1)) (H4.cap (advH t x.1)) (SS.room t) (SS.m t) (SS.l t);
      let q_14 := Nat.beq x.1 0;
      let q_15 := [Col.int IntKind.u16 (uwN (SS.get t) x.1)];
      let q_16 := [Col.int IntKind.u16 (uwN (SS.get t) q_11)];
      let q_17 := (↑(H4.n (advH t x.1)) : Int);
      Bif (decide (q_17 > 1))
        (BOk q_13 ∧
          ∀ (x_2 : Unit),
            let q_18 := x.1 + 1;
            let q_19 := q_12;
            let q_20 := 0 + x.1;
            let q_21 := 0 + q_19;
            let q_22 := q_18 * 2;
            let q_23 := q_19 + x.2.2;
            let q_24 := !q_14;
            Bif (decide (q_20 ≤ x.1) && (longEnough q_20 q_15 && (q_24 || decide q_9)) && (decide (q_22 ≤ 140737488355328) && decide (q_18 ≤ 9223372036854775807)) && (decide (q_21 ≤ q_23) && (q_24 || decide (q_19 = 0))))
              (∀ (x_3 : Nat),
                let q_25 := AO.arr true 33 (q_18 + (q_18 + x_3 - q_18) + (q_18 + x_3 - (q_18 + x_3))) q_18 [Col.int IntKind.u16 (uwN (SS.get t) q_18)];
                let q_26 := q_18;
                let q := q;
                let q_27 := q_26 + x_3;
                let q_28 := q_1;
                let q_29 := q_3;
                let q_30 := q_4;
                let q_31 := q_27 - q_26;
                (2 * q_26 ≤ SS.n t ∧
                    (q_26 = 0 →
                      True →
                        let q := q_26;
                        q + x_3 - q = 0)) ∧
                  ((LUnwords.match_1 (fun (x : Nat × Nat × Nat) => Nat) (q_26, q_31, q_27 - q_27) fun (k c r : Nat) => SS.n t - 2 * k) < LUnwords.match_1 (fun (x : Nat × Nat × Nat) => Nat) x fun (k c r : Nat) => SS.n t - 2 * k) ∧ (AV.sl (q_14 && false) 4 1 0 q_26 q_27 = AV.sl false 4 1 0 q_26 (q_26 + q_31) ∧ q_30 = q_30 ∧ q_29 = q_29 ∧ q_28 = q_28 ∧ True) ∧ Bif (AO.deadB q) True (q = q) ∧ (true = true ∧ q_6 ∧ AV.sl (H4.nl (nextH (advH t x.1))) 0 1 (H4.off (nextH (advH t x.1))) (H4.n (nextH (advH t x.1))) (H4.cap (nextH (advH t x.1))) = AV.sl (H4.nl (advH t q_26)) 0 1 (H4.off (advH t q_26)) (H4.n (advH t q_26)) (H4.cap (advH t q_26)) ∧ True) ∧ Bif (AO.deadB q_25) True (AO.arr true 33 q_27 q_26 [Col.int IntKind.u16 (List.take x.1 (List.drop 0 (uwN (SS.get t) x.1)) ++ List.take 1 (List.drop 0 (List.set (List.replicate 1 0) 0 (IntKind.wrap IntKind.u16 (wordW q_13)))))] = q_25) ∧ True)
              False)
        ((AV.sl q_14 2 1 0 x.1 q_12 = AV.sl (Nat.beq q_11 0) 2 1 0 q_11 (q_11 + (q_12 - q_11)) ∧ True) ∧ Bif (AO.deadB (bO t)) True (q = q) ∧ Bif (AO.deadB (AO.arr true 33 q_10 q_11 q_16)) True (AO.arr true 33 (q_12 + x.2.2) x.1 q_15 = AO.arr true 33 q_10 q_11 q_16) ∧ True)) := by kernel_rfl
set_option maxHeartbeats 1000000 in
theorem unwords_vc (t : SS) (ht : BOk t) : FnV Try.prog Γw (LUnwords t) Try.f31 [ssV t 0] [some (bO t)] (UnwordsS.good t) := by
  have hn2 := ht.nl0
  have a1 := fun k => advW_ok ht k
  have a2 : ∀ k, 2 * k ≤ t.n → (advH t k).n = t.n - 2 * k := fun k h => (advW_at ht k h).1
  have a3 : ∀ k, 2 * k + 1 < t.n → wordW ⟨(advH t k).nl, t.rw, (advH t k).off, (advH t k).n, (advH t k).cap, t.room, t.m, t.l⟩ = wor (t.get (2 * k)) (t.get (2 * k + 1)) := fun k h => advW_word ht (k := k) h
  obtain ⟨k1, k2, k3, k4, k5, k6, k7⟩ := ht
  refine FnV.of (unwords_nf _) ?_
  all_goals try simp only [Bif_need, Bif_True]
  all_goals try simp only [Bif_iff, eq_self, and_true, true_and, AV.val.injEq, AV.agg.injEq, AV.tup.injEq, AV.sl.injEq, AV.ptr.injEq, AV.mp.injEq, Value.int.injEq, Value.bool.injEq, Value.string.injEq, AO.cells.injEq, AO.arr.injEq, AO.mapc.injEq, List.cons.injEq, Col.bool.injEq, Col.int.injEq, Col.str.injEq, MCol.int.injEq, MCol.bool.injEq, MCol.str.injEq, decide_eq_true_eq, decide_eq_false_iff_not, Nat.zero_add, Nat.add_zero, implies_true, Bool.and_eq_true, inR_iff, List.drop_zero, List.take_nil, List.drop_nil, List.nil_append, Int.toNat_natCast, longEnough, colLen, Bool.not_true, Bool.not_false, Bool.true_or, Bool.or_eq_true, Bool.not_eq_true', Bool.not_eq_false', take_take_self, take_tab, one_col, tab_length, mix_length, List.length_take, Nat.min_eq_left, List.set_cons_zero, blt01, Bool.and_false, Bool.and_true, Bool.false_and, Bool.true_and, Bool.false_eq_true, Bool.true_eq_false, false_and, and_false, false_implies]
  all_goals repeat' (first | apply And.intro | intro (⟨k, c, r⟩ : Nat × Nat × Nat) | intro _)
  all_goals try dsimp only at *
  all_goals try omega
  all_goals try (have hk := ‹_ ≤ t.n ∧ (_ → _)›.1; have hc := ‹_ ≤ t.n ∧ (_ → _)›.2; have hn := a2 _ hk)
  all_goals first
    | omega
    | rfl
    | exact hn2 (by omega)
    | exact a1 _
    | exact Nat.le_of_eq (uwN_length _ _).symm
    | exact nlb (b := true) (fun _ h2 => by have := hc h2 trivial; omega)
    | (rw [a3 _ (by omega), List.take_of_length_le (by rw [uwN_length]; omega)]; rfl)
    | (have e : k = t.n / 2 := by omega
       subst e; rfl)
    | (have e : k = t.n / 2 := by omega
       subst e; omega)
theorem unwords_ok : CtOk Try.prog 31 UnwordsS.ct := Sp.ok Γw_ok hm Try.func31 UnwordsS UnwordsS_found LUnwords unwords_vc
end Go.Wk.P04
