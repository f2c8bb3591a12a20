/-
  Comparing bytes; words and their bytes; under the rows' own bounds.
-/
import Derived.Test.YtmbeekfbnfndgaaPq
import Derived.Test.YtmbeekfbnfndgaaKc
namespace Go.Wk.P05
open Go Go.Vs Go.Proofs Go.Wk.P04
set_option linter.unusedSimpArgs false
set_option linter.unusedVariables false
set_option maxRecDepth 10000

/-! bytes.Equal -/
def BEqualS : Sp where
  X := SS × SS
  Y := fun _ => Unit
  y0 := fun _ => ()
  pat := fun x => ([ssV x.1 0, ssV x.2 1], [some (bO x.1), some (bO x.2)])
  fnd := fnd2 5 .u8
  pre := fun x => BOk x.1 ∧ BOk x.2
  res := fun x _ => just (bv (decide (x.1.val = x.2.val)))
  pick := fun _ _ _ => some ((), [0, 1])
theorem BEqualS_found : BEqualS.spec.Found := fun _ _ _ _ h => fnd2_found h
set_option maxRecDepth 100000 in
theorem bequal_nf (s : SS) (t : SS) : (fnV Try.prog Γ10 (fun (x : Code) (x_1 : AS) => none) Try.f22 [ssV s 0, ssV t 1] [some (bO s), some (bO t)] (Sp.good BEqualS (s, t))) = (let q := SS.off s + SS.n s; let q_1 := SS.off t + SS.n t; let q_2 := AO.arr (SS.rw t) 5 (SS.room t) (SS.m t) [Col.int IntKind.u8 (SS.l t)]; let q_3 := AO.arr (SS.rw s) 5 (SS.room s) (SS.m s) [Col.int IntKind.u8 (SS.l s)]; Bif (decide (q ≤ SS.m s) && (longEnough q [Col.int IntKind.u8 (SS.l s)] && (!SS.nl s || decide (SS.n s = 0)))) (Bif (decide (q_1 ≤ SS.m t) && (longEnough q_1 [Col.int IntKind.u8 (SS.l t)] && (!SS.nl t || decide (SS.n t = 0)))) ((AV.val (Value.bool (ByteArray.toList (strOfNums (List.take (SS.n s) (List.drop (SS.off s) (SS.l s)))) == ByteArray.toList (strOfNums (List.take (SS.n t) (List.drop (SS.off t) (SS.l t)))))) = AV.val (Value.bool (decide (SS.val s = SS.val t))) ∧ True) ∧ Bif (AO.deadB (bO s)) True (q_3 = q_3) ∧ Bif (AO.deadB (bO t)) True (q_2 = q_2) ∧ True) False) False) := by kernel_rfl
set_option maxHeartbeats 1000000 in
theorem bequal_vc (s t : SS) (hs : BOk s) (ht : BOk t) : FnV Try.prog Γ10 (fun _ _ => none) Try.f22 [ssV s 0, ssV t 1] [some (bO s), some (bO t)] (BEqualS.good (s, t)) := by
  have e : ((strOfNums s.val).toList == (strOfNums t.val).toList) = decide (s.val = t.val) := strOfNums_inj (SS.val_in hs) (SS.val_in ht)
  have n1 := nl_or hs
  have n2 := nl_or ht
  obtain ⟨h1, h2, h3, h4, h5, h6, h7⟩ := hs
  obtain ⟨k1, k2, k3, k4, k5, k6, k7⟩ := ht
  refine FnV.of (bequal_nf _ _) ?_
  all_goals try simp only [Bif_need, Bif_True]
  all_goals try simp only [Bif_iff, eq_self, and_true, true_and, AV.val.injEq, AV.agg.injEq, AV.tup.injEq, AV.sl.injEq, AV.ptr.injEq, AV.mp.injEq, Value.int.injEq, Value.bool.injEq, Value.string.injEq, AO.cells.injEq, AO.arr.injEq, AO.mapc.injEq, List.cons.injEq, Col.bool.injEq, Col.int.injEq, Col.str.injEq, MCol.int.injEq, MCol.bool.injEq, MCol.str.injEq, decide_eq_true_eq, decide_eq_false_iff_not, Nat.zero_add, Nat.add_zero, implies_true, Bool.and_eq_true, inR_iff, List.drop_zero, List.take_nil, List.drop_nil, List.nil_append, Int.toNat_natCast, longEnough, colLen, Bool.not_true, Bool.not_false, Bool.true_or, Bool.or_eq_true, Bool.not_eq_true', Bool.not_eq_false', take_take_self, take_tab, one_col, tab_length, mix_length, List.length_take, Nat.min_eq_left, List.set_cons_zero, blt01, Bool.and_false, Bool.and_true, Bool.false_and, Bool.true_and, Bool.false_eq_true, Bool.true_eq_false, false_and, and_false, false_implies]
  all_goals repeat' (first | apply And.intro | intro (⟨k, c, r⟩ : Nat × Nat × Nat) | intro _)
  all_goals try dsimp only at *
  all_goals try omega
  all_goals first
    | assumption
    | omega
    | exact e
    | exact decide_eq_true (by omega)
theorem bequal_ok : CtOk Try.prog 22 BEqualS.ct := Sp.ok Γ10_ok hm Try.func22 BEqualS BEqualS_found (fun _ _ _ => none) (fun x h => bequal_vc x.1 x.2 h.1 h.2)

/-! IndexFunc of words above 1, for the answer's closure -/
noncomputable def Γc : Cts := Γ10.add 30 (autoCt Try.prog Γnone Try.f30)
theorem Γc_ok : CtsOk Try.prog Γc := Γ10_ok.add (autoCt_ok CtsOk.none hm Try.func30) Try.func30 (by kernel_rfl) (by kernel_rfl)
def Index2S : Sp where
  X := SS
  Y := fun _ => Unit
  y0 := fun _ => ()
  pat := fun s => ([ssV s 0, .fn (.func 30) [] []], [some (wO s)])
  fnd := fun args H => match args with
    | [v, .fn (.func 30) [] []] => (match fndS 44 .u16 v H with | some (s, b) => some (s, [b]) | none => none)
    | _ => none
  pre := WOk
  res := fun s _ => just (iv (idx (findN s.n (big s))))
  pick := fun _ _ _ => some ((), [0])
theorem Index2S_found : Index2S.spec.Found := by
  intro args H x σ h
  simp only [Sp.spec, Index2S] at h
  split at h
  rotate_left
  · cases h
  split at h
  rotate_left
  · cases h
  rename_i s b hs
  cases h
  obtain ⟨rfl, h2⟩ := fndS_found hs
  exact ⟨rfl, fun i ao hi => by
    match i, hi with
    | 0, hi => obtain rfl := Option.some.inj (Option.some.inj hi); exact h2⟩
set_option maxRecDepth 100000 in
theorem index2_nf (s : SS) : (fnV Try.prog Γc (LIndex s) Try.f47 [ssV s 0, AV.fn (Fn.func 30) [] []] [some (wO s)] (Sp.good Index2S s)) = (let q := AO.arr (SS.rw s) 44 (SS.room s) (SS.m s) [Col.int IntKind.u16 (SS.l s)]; let q_1 := AV.sl (SS.nl s) 0 1 (SS.off s) (SS.n s) (SS.cap s); let q_2 := AV.fn (Fn.func 30) [] []; let q_3 := AV.val (Value.int IntKind.i64 0) = AV.val (Value.int IntKind.i64 0); let q_4 := AV.val (Value.int IntKind.i64 (↑(SS.n s) : Int)); ((0 ≤ SS.n s ∧ false = false) ∧ (q_3 ∧ q_3 ∧ q_4 = q_4 ∧ q_1 = q_1 ∧ q_2 = q_2 ∧ True) ∧ Bif (AO.deadB q) True (q = q) ∧ True) ∧ ∀ (x : Nat), let q := q; let q_5 := SS.off s + x; x ≤ SS.n s ∧ anyN x (big s) = false → let q_6 := Bif (AO.deadB (wO s)) True (q = q) ∧ True; let q := q; let q_7 := x + 1; let q_8 := decide (q_5 < SS.m s); let q_9 := List.getD (SS.l s) (SS.off s + Int.toNat (↑x : Int)) 0; let q_10 := q_1; let q_11 := q_2; let q_12 := AV.val (Value.int IntKind.i64 (idx (findN (SS.n s) (big s)))); let q_13 := q_4; let q_14 := AV.val (Value.int IntKind.i64 0); Bif (decide ((↑x : Int) < (↑(SS.n s) : Int))) (Bif (!SS.nl s && (inR (↑x : Int) (SS.n s) && q_8)) (Bif q_8 (Bif (decide (q_9 > 1)) ((AV.val (Value.int IntKind.i64 (↑x : Int)) = q_12 ∧ True) ∧ q_6) ((q_7 ≤ SS.n s ∧ anyN q_7 (big s) = false) ∧ SS.n s - q_7 < SS.n s - x ∧ (AV.val (Value.int IntKind.i64 (IntKind.wrap IntKind.i64 ((↑x : Int) + 1))) = AV.val (Value.int IntKind.i64 (↑q_7 : Int)) ∧ q_14 = q_14 ∧ q_13 = q_13 ∧ q_10 = q_10 ∧ q_11 = q_11 ∧ True) ∧ Bif (AO.deadB q) True (q = q) ∧ True)) False) False) ((AV.val (Value.int IntKind.i64 (-1)) = q_12 ∧ True) ∧ q_6)) := by kernel_rfl
set_option maxHeartbeats 1000000 in
theorem index2_vc (s : SS) (hs : WOk s) : FnV Try.prog Γc (LIndex s) Try.f47 [ssV s 0, .fn (.func 30) [] []] [some (wO s)] (Index2S.good s) := by
  have hnl := hs.nl0
  obtain ⟨h1, h2, h3, h4, h5, h6, h7⟩ := hs
  have q1 : ∀ k, k < s.n → anyN k (big s) = false → s.l.getD (s.off + k) 0 > 1 → findN s.n (big s) = some k := fun k hk hb hp => findN_some hk (by simp only [big, hp, decide_true]) (fun j hj => anyN_not.1 hb j hj)
  have q2 : ∀ k, ¬ k < s.n → anyN k (big s) = false → findN s.n (big s) = none := fun k hk hb => findN_none fun j hj => anyN_not.1 hb j (by omega)
  refine FnV.of (index2_nf _) ?_
  all_goals try simp only [Bif_need, Bif_True]
  all_goals try simp only [Bif_iff, eq_self, and_true, true_and, AV.val.injEq, AV.agg.injEq, AV.tup.injEq, AV.sl.injEq, AV.ptr.injEq, AV.mp.injEq, Value.int.injEq, Value.bool.injEq, Value.string.injEq, AO.cells.injEq, AO.arr.injEq, AO.mapc.injEq, List.cons.injEq, Col.bool.injEq, Col.int.injEq, Col.str.injEq, MCol.int.injEq, MCol.bool.injEq, MCol.str.injEq, decide_eq_true_eq, decide_eq_false_iff_not, Nat.zero_add, Nat.add_zero, implies_true, Bool.and_eq_true, inR_iff, List.drop_zero, List.take_nil, List.drop_nil, List.nil_append, Int.toNat_natCast, longEnough, colLen, Bool.not_true, Bool.not_false, Bool.true_or, Bool.or_eq_true, Bool.not_eq_true', Bool.not_eq_false', take_take_self, take_tab, one_col, tab_length, mix_length, List.length_take, Nat.min_eq_left, List.set_cons_zero, blt01, Bool.and_false, Bool.and_true, Bool.false_and, Bool.true_and, Bool.false_eq_true, Bool.true_eq_false, false_and, and_false, false_implies, anyN_succ]
  all_goals repeat' (first | apply And.intro | intro (⟨k, c, r⟩ : Nat × Nat × Nat) | intro _)
  all_goals try dsimp only at *
  all_goals try omega
  all_goals first
    | omega
    | exact hnl (by omega)
    | (rw [IntWalk.i64_in _ (by omega)]; omega)
    | (obtain ⟨_, hb⟩ := ‹_ ∧ anyN _ _ = false›; rw [q1 _ (by omega) hb ‹_›]; rfl)
    | (obtain ⟨_, hb⟩ := ‹_ ∧ anyN _ _ = false›; rw [q2 _ (by omega) hb]; rfl)
    | (refine ⟨‹_ ∧ _›.2, ?_⟩; simp only [big, decide_eq_false_iff_not]; assumption)
    | (simp only [Bool.or_eq_false_iff]; refine ⟨‹_ ∧ _›.2, ?_⟩; simp only [big, decide_eq_false_iff_not]; assumption)
theorem index2_ok : CtOk Try.prog 47 Index2S.ct := Sp.ok Γc_ok hm Try.func47 Index2S Index2S_found LIndex index2_vc
noncomputable def Γd : Cts := (Γc.add 47 (IndexS.ct.or Index2S.ct)).add 22 BEqualS.ct
theorem Γd_ok : CtsOk Try.prog Γd := (Γc_ok.add (index_ok.or index2_ok) Try.func47 (by kernel_rfl) (by kernel_rfl)).add bequal_ok Try.func22 (by kernel_rfl) (by kernel_rfl)
noncomputable def Γe : Cts := Γd.add 31 (autoCt Try.prog Γd Try.f31)
theorem Γe_ok : CtsOk Try.prog Γe := Γd_ok.add (autoCt_ok Γd_ok hm Try.func31) Try.func31 (by kernel_rfl) (by kernel_rfl)

/-! words, unwords -/
noncomputable def LRwords (x : SS) : Loops := fun body s => match loopId body with
  | _ => some (mkLI Try.f32 body s (X := Nat × Nat × Nat) (0, 0, 0) [0, 1] (fun (k, c, r) => k ≤ x.n ∧ (k = 0 → True → c = 0)) (fun (k, c, r) => x.n - k)
      (fun (k, c, r) => [(8, iv k), (3, ownV (Nat.beq k 0) 1 (2 * k) c)])
      (fun (k, c, r) => [some (wO x), some (ownO (2 * k) (c, r) (wN x.get k))])
      (fun (k, c, r) s => match Go.Vs.look s.env 3 with
        | some v => (pkO (2 * (k + 1)) v s.heap).map fun ((c, r), b) => ((k + 1, c, r), [0, b])
        | none => none))
def RwordsS : Sp where
  X := SS
  Y := fun _ => Nat × Nat
  y0 := fun _ => (0, 0)
  pat := fun x => ([ssV x 0], [some (wO x)])
  fnd := BitsS.fnd
  pre := WOk
  res := fun x y => ⟨ownV (Nat.beq x.n 0) 1 (2 * x.n) y.1, [], [ownO (2 * x.n) y (wN x.get x.n)]⟩
  pick := fun x v H => (pkO (2 * x.n) v H).map fun (y, b) => (y, [0, b])
theorem RwordsS_found : RwordsS.spec.Found := fun _ _ _ _ h => BitsS_found _ _ _ _ h
set_option maxRecDepth 100000 in
theorem rwords_nf (t : SS) : (fnV Try.prog Γnone (LRwords t) Try.f32 [ssV t 0] [some (wO t)] (Sp.good RwordsS t)) = (let q := AO.arr (SS.rw t) 44 (SS.room t) (SS.m t) [Col.int IntKind.u16 (SS.l t)]; let q_1 := AV.sl (SS.nl t) 0 1 (SS.off t) (SS.n t) (SS.cap t) = AV.sl (SS.nl t) 0 1 (SS.off t) (SS.n t) (SS.cap t); let q_2 := 0 = 0; let q_3 := AV.val (Value.slice none 0 0); let q_4 := AV.val (Value.int IntKind.i64 (↑(SS.n t) : Int)); let q_5 := AV.val (Value.int IntKind.i64 0); ((0 ≤ SS.n t ∧ (q_2 → True → q_2)) ∧ (q_5 = q_5 ∧ (true = true ∧ q_2 ∧ q_2) ∧ q_4 = q_4 ∧ q_1 ∧ q_3 = q_3 ∧ q_1 ∧ True) ∧ Bif (AO.deadB q) True (q = q) ∧ True ∧ True) ∧ ∀ (x : Nat × Nat × Nat), let q_6 := SS.off t + Int.toNat (↑x.1 : Int); let q_7 := x.1 + 1; let q_8 := 2 * x.1; x.1 ≤ SS.n t ∧ (x.1 = 0 → True → x.2.1 = 0) → let q_9 := q_8 + 2; let q_10 := q_8; let q_11 := 2 * q_7; let q_12 := q_10 + Prod.fst x.2 + Prod.snd x.2; let q_13 := 2 * SS.n t; let q_14 := q_10 + x.2.1; let q := q; let q_15 := decide (q_6 < SS.m t); let q_16 := 0 + q_10; let q_17 := AV.sl (SS.nl t) 0 1 (SS.off t) (SS.n t) (SS.cap t); let q_18 := q_13 + (q_14 - q_13); let q_19 := Nat.beq x.1 0; let q_20 := q_7; let q_21 := 0 + q_14; let q_22 := q_9 * 1; let q_23 := [Col.int IntKind.u8 (wN (SS.get t) x.1)]; let q_24 := q_12 - q_14; Bif (decide ((↑x.1 : Int) < (↑(SS.n t) : Int))) (Bif (!SS.nl t && (inR (↑x.1 : Int) (SS.n t) && q_15)) (Bif q_15 (Bif (decide (q_16 ≤ q_10) && (longEnough q_16 q_23 && (!q_19 || decide (q_10 = 0))) && (decide (q_22 ≤ 140737488355328) && decide (q_9 ≤ 9223372036854775807)) && (decide (q_21 ≤ q_12) && (!q_19 || decide (q_14 = 0)))) (∀ (x_2 : Nat), let q_25 := AO.arr true 5 (q_11 + (q_9 + x_2 - q_11) + (q_9 + x_2 - (q_9 + x_2))) q_11 [Col.int IntKind.u8 (wN (SS.get t) q_20)]; let q_26 := q_9 + x_2; let q_27 := q_26 - q_11; let q_28 := q_20; let q_29 := q_17 = q_17; let q := q; let q_30 := q_9; let q_31 := List.getD (SS.l t) q_6 0; let q_32 := q_3; let q_33 := 2 * q_28; let q_34 := q_4; (q_28 ≤ SS.n t ∧ (q_28 = 0 → True → q_27 = 0)) ∧ ((LRwords.match_1 (fun (x : Nat × Nat × Nat) => Nat) (q_28, q_27, q_26 - q_26) fun (k c r : Nat) => SS.n t - k) < LRwords.match_1 (fun (x : Nat × Nat × Nat) => Nat) x fun (k c r : Nat) => SS.n t - k) ∧ (AV.val (Value.int IntKind.i64 (IntKind.wrap IntKind.i64 ((↑x.1 : Int) + 1))) = AV.val (Value.int IntKind.i64 (↑q_28 : Int)) ∧ AV.sl (q_19 && false) 3 1 0 q_30 q_26 = AV.sl false 3 1 0 q_33 (q_33 + q_27) ∧ q_34 = q_34 ∧ q_29 ∧ q_32 = q_32 ∧ q_29 ∧ True) ∧ Bif (AO.deadB q) True (q = q) ∧ Bif (AO.deadB q_25) True (AO.arr true 5 q_26 q_30 [Col.int IntKind.u8 (List.take q_10 (List.drop 0 (wN (SS.get t) x.1)) ++ List.take 2 (List.drop 0 (List.set (List.set (List.replicate 2 0) 0 (IntKind.wrap IntKind.u8 (Int.fdiv q_31 (2 ^ min (Int.toNat 8) (IntKind.bits IntKind.u16))))) 1 (IntKind.wrap IntKind.u8 q_31))))] = q_25) ∧ True) False) False) False) ((AV.sl q_19 1 1 0 q_10 q_14 = AV.sl (Nat.beq (SS.n t) 0) 1 1 0 q_13 q_18 ∧ True) ∧ Bif (AO.deadB (wO t)) True (q = q) ∧ Bif (AO.deadB (ownO q_13 (q_14 - q_13, q_24) (wN (SS.get t) (SS.n t)))) True (AO.arr true 5 q_12 q_10 q_23 = AO.arr true 5 (q_18 + q_24) q_13 [Col.int IntKind.u8 (wN (SS.get t) (SS.n t))]) ∧ True)) := by kernel_rfl
set_option maxHeartbeats 1000000 in
theorem rwords_vc (t : SS) (ht : WOk t) : FnV Try.prog Γnone (LRwords t) Try.f32 [ssV t 0] [some (wO t)] (RwordsS.good t) := by
  have hn2 := ht.nl0
  obtain ⟨k1, k2, k3, k4, k5, k6, k7⟩ := ht
  refine FnV.of (rwords_nf _) ?_
  all_goals try simp only [Bif_need, Bif_True]
  all_goals try simp only [Bif_iff, eq_self, and_true, true_and, AV.val.injEq, AV.agg.injEq, AV.tup.injEq, AV.sl.injEq, AV.ptr.injEq, AV.mp.injEq, Value.int.injEq, Value.bool.injEq, Value.string.injEq, AO.cells.injEq, AO.arr.injEq, AO.mapc.injEq, List.cons.injEq, Col.bool.injEq, Col.int.injEq, Col.str.injEq, MCol.int.injEq, MCol.bool.injEq, MCol.str.injEq, decide_eq_true_eq, decide_eq_false_iff_not, Nat.zero_add, Nat.add_zero, implies_true, Bool.and_eq_true, inR_iff, List.drop_zero, List.take_nil, List.drop_nil, List.nil_append, Int.toNat_natCast, longEnough, colLen, Bool.not_true, Bool.not_false, Bool.true_or, Bool.or_eq_true, Bool.not_eq_true', Bool.not_eq_false', take_take_self, take_tab, one_col, tab_length, mix_length, List.length_take, Nat.min_eq_left, List.set_cons_zero, blt01, Bool.and_false, Bool.and_true, Bool.false_and, Bool.true_and, Bool.false_eq_true, Bool.true_eq_false, false_and, and_false, false_implies]
  all_goals repeat' (first | apply And.intro | intro (⟨k, c, r⟩ : Nat × Nat × Nat) | intro _)
  all_goals try dsimp only at *
  all_goals try omega
  all_goals try (have hk := ‹_ ≤ t.n ∧ (_ → _)›.1; have hc := ‹_ ≤ t.n ∧ (_ → _)›.2)
  all_goals first
    | omega
    | exact hn2 (by omega)
    | (simp only [List.length_append, wN_length]; omega)
    | (simp only [wN, List.append_nil]; done)
    | exact nlb (b := true) (fun _ h2 => by have := hc h2 trivial; omega)
    | exact words_step0 (hi_u8 _ _ (by decide)) (wrap_u8 _)
    | (have e := Nat.le_antisymm hk (by omega); subst e; rfl)
    | (rw [IntWalk.i64_in _ (by omega)]; omega)
    | grind
theorem rwords_ok : CtOk Try.prog 32 RwordsS.ct := Sp.ok CtsOk.none hm Try.func32 RwordsS RwordsS_found LRwords rwords_vc

/-- All whole words of bytes. -/
def wd (f : Nat → Int) (j : Nat) : Int := f (2 * j) * 256 + f (2 * j + 1)
def uwT (x : SS) : List Int := tab (x.n / 2) (wd x.get)
noncomputable def LRunwords (x : SS) : Loops := fun body s => match loopId body with
  | _ => some (mkLI Try.f36 body s (X := Nat × Nat × Nat) (0, 0, 0) [0, 1] (fun (k, c, r) => 2 * k ≤ x.n ∧ (k = 0 → True → c = 0)) (fun (k, c, r) => x.n - 2 * k)
      (fun (k, c, r) => [(0, .sl (advH x k).nl 0 1 (advH x k).off (advH x k).n (advH x k).cap), (3, .sl (Nat.beq k 0) 1 1 0 k (k + c))])
      (fun (k, c, r) => [some (bO x), some (.arr true 44 (k + c + r) k [.int .u16 (tab k (wd x.get))])])
      (fun (k, c, r) s => match Go.Vs.look s.env 3 with
        | some v => (pkO (k + 1) v s.heap).map fun ((c, r), b) => ((k + 1, c, r), [0, b])
        | none => none))
def RunwordsS : Sp where
  X := SS
  Y := fun _ => Nat × Nat
  y0 := fun _ => (0, 0)
  pat := fun x => ([ssV x 0], [some (bO x)])
  fnd := fun args H => match args with
    | [w] => (match fndS 5 .u8 w H with | some (t, c) => some (t, [c]) | _ => none)
    | _ => none
  pre := BOk
  res := fun x y => ⟨.sl (Nat.beq (x.n / 2) 0) 1 1 0 (x.n / 2) (x.n / 2 + y.1), [], [.arr true 44 (x.n / 2 + y.1 + y.2) (x.n / 2) [.int .u16 (uwT x)]]⟩
  pick := fun x v H => (pkO (x.n / 2) v H).map fun (y, b) => (y, [0, b])
theorem RunwordsS_found : RunwordsS.spec.Found := by
  intro args H x σ h
  simp only [Sp.spec, RunwordsS] at h
  split at h
  rotate_left
  · cases h
  split at h
  rotate_left
  · cases h
  rename_i t c ht
  cases h
  obtain ⟨rfl, h3⟩ := fndS_found ht
  exact ⟨rfl, fun i ao hi => by
    match i, hi with
    | 0, hi => obtain rfl := Option.some.inj (Option.some.inj hi); exact h3⟩
theorem wor16_of {a b : Int} (ha : 0 ≤ a ∧ a < 256) (hb : 0 ≤ b ∧ b < 256) :
    IntKind.u16.wrap ↑(BitVec.ofInt IntKind.u16.bits (IntKind.u16.wrap (IntKind.u16.wrap a * 2 ^ min (Int.toNat 8) IntKind.u16.bits)) ||| BitVec.ofInt IntKind.u16.bits (IntKind.u16.wrap b)).toNat = a * 256 + b := by
  obtain ⟨a, rfl⟩ := Int.eq_ofNat_of_zero_le ha.1
  obtain ⟨b, rfl⟩ := Int.eq_ofNat_of_zero_le hb.1
  have e1 : IntKind.u16.wrap (a : Int) = a := by rw [wrap_u16]; omega
  have e2 : IntKind.u16.wrap (b : Int) = b := by rw [wrap_u16]; omega
  have e3 : (2 : Int) ^ min (Int.toNat 8) IntKind.u16.bits = 256 := rfl
  have e4 : IntKind.u16.wrap ((a : Int) * 256) = ((a * 256 : Nat) : Int) := by rw [wrap_u16]; omega
  rw [e1, e2, e3, e4]
  have e5 : (BitVec.ofInt IntKind.u16.bits ((a * 256 : Nat) : Int) ||| BitVec.ofInt IntKind.u16.bits ((b : Nat) : Int)).toNat = a * 256 + b := by
    rw [BitVec.toNat_or, BitVec.toNat_ofInt, BitVec.toNat_ofInt]
    have h1 : (((a * 256 : Nat) : Int) % ((2 ^ IntKind.u16.bits : Nat) : Int)).toNat = a * 256 := by
      rw [show ((2 ^ IntKind.u16.bits : Nat) : Int) = 65536 from rfl]; omega
    have h2 : (((b : Nat) : Int) % ((2 ^ IntKind.u16.bits : Nat) : Int)).toNat = b := by
      rw [show ((2 ^ IntKind.u16.bits : Nat) : Int) = 65536 from rfl]; omega
    rw [h1, h2, show a * 256 = a <<< 8 by rw [Nat.shiftLeft_eq]]
    rw [← Nat.shiftLeft_add_eq_or_of_lt (by omega)]
  rw [e5, wrap_u16]; omega
set_option maxRecDepth 100000 in
theorem runwords_nf (t : SS) : (fnV Try.prog Γnone (LRunwords t) Try.f36 [ssV t 0] [some (bO t)] (Sp.good RunwordsS t)) = (let q := AO.arr (SS.rw t) 5 (SS.room t) (SS.m t) [Col.int IntKind.u8 (SS.l t)]; let q_1 := 0 = 0; let q_2 := AV.val (Value.slice none 0 0); let q_3 := advH t 0; ((0 ≤ SS.n t ∧ (q_1 → True → q_1)) ∧ (AV.sl (SS.nl t) 0 1 (SS.off t) (SS.n t) (SS.cap t) = AV.sl (H4.nl q_3) 0 1 (H4.off q_3) (H4.n q_3) (H4.cap q_3) ∧ (true = true ∧ q_1 ∧ q_1) ∧ q_2 = q_2 ∧ True) ∧ Bif (AO.deadB q) True (q = q) ∧ True ∧ True) ∧ ∀ (x : Nat × Nat × Nat), let q_4 := x.1 + x.2.1; let q_5 := SS.n t / 2; let q_6 := H4.off (advH t x.1) + 0; let q_7 := H4.off (advH t x.1) + 1; let q_8 := x.1 = 0; let q_9 := tab x.1 (wd (SS.get t)); 2 * x.1 ≤ SS.n t ∧ (q_8 → True → x.2.1 = 0) → let q_10 := x.1 + 1; let q_11 := q_5 + (q_4 - q_5) + (q_4 + x.2.2 - q_4); let q_12 := q_5; let q_13 := q_4; let q_14 := decide (q_7 < SS.m t); let q_15 := decide (q_6 < SS.m t); let q := q; let q_16 := 0 + x.1; let q_17 := q_13 + x.2.2; let q_18 := Nat.beq x.1 0; let q_19 := 0 + q_13; let q_20 := q_10 * 2; let q_21 := [Col.int IntKind.u16 q_9]; let q_22 := [Col.int IntKind.u16 (uwT t)]; let q_23 := (↑(H4.n (advH t x.1)) : Int); Bif (decide (q_23 > 1)) (Bif (!H4.nl (advH t x.1) && (inR 0 (H4.n (advH t x.1)) && q_15)) (Bif q_15 (Bif (!H4.nl (advH t x.1) && (inR 1 (H4.n (advH t x.1)) && q_14)) (Bif q_14 (Bif (decide (q_16 ≤ x.1) && (longEnough q_16 q_21 && (!q_18 || decide q_8)) && (decide (q_20 ≤ 140737488355328) && decide (q_10 ≤ 9223372036854775807)) && (decide (q_19 ≤ q_17) && (!q_18 || decide (q_13 = 0)))) (∀ (x_2 : Nat), let q_24 := AO.arr true 44 (q_10 + (q_10 + x_2 - q_10) + (q_10 + x_2 - (q_10 + x_2))) q_10 [Col.int IntKind.u16 (tab q_10 (wd (SS.get t)))]; let q_25 := q_10; let q := q; let q_26 := q_25 + x_2; let q_27 := q_2; let q_28 := q_26 - q_25; Bif (inC 2 (H4.n (advH t x.1)) && (decide (H4.cap (advH t x.1) = 2) || Nat.blt 0 (SS.room t))) ((2 * q_25 ≤ SS.n t ∧ (q_25 = 0 → True → let q := q_25; q + x_2 - q = 0)) ∧ ((LRwords.match_1 (fun (x : Nat × Nat × Nat) => Nat) (q_25, q_28, q_26 - q_26) fun (k c r : Nat) => SS.n t - 2 * k) < LRwords.match_1 (fun (x : Nat × Nat × Nat) => Nat) x fun (k c r : Nat) => SS.n t - 2 * k) ∧ (AV.sl (H4.nl (advH t x.1)) 0 1 (H4.off (advH t x.1) + cutOff (H4.cap (advH t x.1)) (Int.toNat 2)) (H4.n (advH t x.1) - 2) (H4.cap (advH t x.1) - 2) = AV.sl (H4.nl (advH t q_25)) 0 1 (H4.off (advH t q_25)) (H4.n (advH t q_25)) (H4.cap (advH t q_25)) ∧ AV.sl (q_18 && false) 9 1 0 q_25 q_26 = AV.sl false 9 1 0 q_25 (q_25 + q_28) ∧ q_27 = q_27 ∧ True) ∧ Bif (AO.deadB q) True (q = q) ∧ Bif (AO.deadB q_24) True (AO.arr true 44 q_26 q_25 [Col.int IntKind.u16 (List.take x.1 (List.drop 0 q_9) ++ List.take 1 (List.drop 0 (List.set (List.replicate 1 0) 0 (IntKind.wrap IntKind.u16 (↑(BitVec.toNat (BitVec.ofInt (IntKind.bits IntKind.u16) (IntKind.wrap IntKind.u16 (IntKind.wrap IntKind.u16 (List.getD (SS.l t) (H4.off (advH t x.1) + Int.toNat 0) 0) * 2 ^ min (Int.toNat 8) (IntKind.bits IntKind.u16))) ||| BitVec.ofInt (IntKind.bits IntKind.u16) (IntKind.wrap IntKind.u16 (List.getD (SS.l t) (H4.off (advH t x.1) + Int.toNat 1) 0)))) : Int)))))] = q_24) ∧ True) False) False) False) False) False) False) ((AV.sl q_18 1 1 0 x.1 q_13 = AV.sl (Nat.beq q_12 0) 1 1 0 q_12 (q_12 + (q_13 - q_12)) ∧ True) ∧ Bif (AO.deadB (bO t)) True (q = q) ∧ Bif (AO.deadB (AO.arr true 44 q_11 q_12 q_22)) True (AO.arr true 44 q_17 x.1 q_21 = AO.arr true 44 q_11 q_12 q_22) ∧ True)) := by kernel_rfl
set_option maxHeartbeats 1000000 in
theorem runwords_vc (t : SS) (ht : BOk t) : FnV Try.prog Γnone (LRunwords t) Try.f36 [ssV t 0] [some (bO t)] (RunwordsS.good t) := by
  have a1 := fun k => advW_ok ht k
  have a2 : ∀ k, 2 * k ≤ t.n → (advH t k).n = t.n - 2 * k := fun k h => (advW_at ht k h).1
  have a3 : ∀ k, 2 * k < t.n → ∀ j, t.l.getD ((advH t k).off + j) 0 = t.get (2 * k + j) := fun k h j => (advW_at ht k (by omega)).2 h j
  have b1 : ∀ k, (advH t k).off + (advH t k).n ≤ t.m := fun k => (a1 k).off
  have b2 : ∀ k, (advH t k).n ≤ (advH t k).cap := fun k => (a1 k).cap
  have b3 : ∀ k, (advH t k).off + (advH t k).cap ≤ t.room := fun k => (a1 k).room
  have b4 : ∀ k, 0 < (advH t k).n → (advH t k).nl = false := fun k => (a1 k).nl0
  have b5 : ∀ k, ¬ (advH t k).n < 2 → advH t (k + 1) = ⟨(advH t k).nl, (advH t k).off + cutOff (advH t k).cap 2, (advH t k).n - 2, (advH t k).cap - 2⟩ := fun k h => by
    show nextH _ = _
    simp only [nextH, decide_eq_false h, cond_false]
  have b6 := ht.n
  refine FnV.of (runwords_nf _) ?_
  all_goals try simp only [Bif_need, Bif_True]
  all_goals try simp only [Bif_iff, eq_self, and_true, true_and, AV.val.injEq, AV.agg.injEq, AV.tup.injEq, AV.sl.injEq, AV.ptr.injEq, AV.mp.injEq, Value.int.injEq, Value.bool.injEq, Value.string.injEq, AO.cells.injEq, AO.arr.injEq, AO.mapc.injEq, List.cons.injEq, Col.bool.injEq, Col.int.injEq, Col.str.injEq, MCol.int.injEq, MCol.bool.injEq, MCol.str.injEq, decide_eq_true_eq, decide_eq_false_iff_not, Nat.zero_add, Nat.add_zero, implies_true, Bool.and_eq_true, inR_iff, List.drop_zero, List.take_nil, List.drop_nil, List.nil_append, Int.toNat_natCast, longEnough, colLen, Bool.not_true, Bool.not_false, Bool.true_or, Bool.or_eq_true, Bool.not_eq_true', Bool.not_eq_false', take_take_self, take_tab, one_col, tab_length, mix_length, List.length_take, Nat.min_eq_left, List.set_cons_zero, blt01, Bool.and_false, Bool.and_true, Bool.false_and, Bool.true_and, Bool.false_eq_true, Bool.true_eq_false, false_and, and_false, false_implies]
  all_goals repeat' (first | apply And.intro | intro (⟨k, c, r⟩ : Nat × Nat × Nat) | intro _)
  all_goals try dsimp only at *
  all_goals try omega
  all_goals try (have hk := ‹_ ≤ t.n ∧ (_ → _)›.1; have hc := ‹_ ≤ t.n ∧ (_ → _)›.2; have hn := a2 _ hk)
  all_goals try (have c1 := b1 k; have c2 := b2 k; have c3 := b3 k; have c4 := b4 k)
  all_goals try rw [b5 k (by omega)]
  all_goals first
    | omega
    | rfl
    | exact c4 (by omega)
    | (rw [Nat.blt_eq]; omega)
    | exact nlb (b := true) (fun _ h2 => by have := hc h2 trivial; omega)
    | (simp only [inC, Bool.and_eq_true, decide_eq_true_eq]; omega)
    | (simp only [tab_length]; omega)
    | (rw [a3 k (by omega), a3 k (by omega), wor16_of (byte_in ht (by simp; omega)) (byte_in ht (by simp; omega)), tab_succ]; rfl)
    | (have e : k = t.n / 2 := by omega
       subst e; rfl)
theorem runwords_ok : CtOk Try.prog 36 RunwordsS.ct := Sp.ok CtsOk.none hm Try.func36 RunwordsS RunwordsS_found LRunwords runwords_vc
end Go.Wk.P05
