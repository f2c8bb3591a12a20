/-
  Searching, and comparing rows of numbers; under the rows' own bounds.
-/
import Derived.Test.YtmbeekfbnfndgaaPa
namespace Go.Wk.P04
open Go Go.Vs Go.Proofs
set_option linter.unusedSimpArgs false
set_option linter.unusedVariables false
set_option maxRecDepth 10000

noncomputable def Γ0 : Cts := (Γnone.add 49 (autoCt Try.prog Γnone Try.f49)).add 50 (autoCt Try.prog Γnone Try.f50)
theorem Γ0_ok : CtsOk Try.prog Γ0 :=
  (CtsOk.none.add (autoCt_ok CtsOk.none hm Try.func49) Try.func49 (by kernel_rfl) (by kernel_rfl)).add (autoCt_ok CtsOk.none hm Try.func50) Try.func50 (by kernel_rfl) (by kernel_rfl)

abbrev bO (s : SS) : AO := ssO 5 .u8 s
abbrev wO (s : SS) : AO := ssO 44 .u16 s
abbrev nO (s : SS) : AO := ssO 3 .i64 s
abbrev BOk (s : SS) : Prop := SSOk 2000000 256 s
abbrev WOk (s : SS) : Prop := SSOk 2000000 65536 s

/-! IndexFunc of words above 1 -/
def big (s : SS) (j : Nat) : Bool := decide (s.l.getD (s.off + j) 0 > 1)
def idx (o : Option Nat) : Int := match o with | some k => (k : Int) | none => -1
def IndexS : Sp where
  X := SS
  Y := fun _ => Unit
  y0 := fun _ => ()
  pat := fun s => ([ssV s 0, .fn (.func 50) [] []], [some (wO s)])
  fnd := fun args H => match args with
    | [v, .fn (.func 50) [] []] => (match fndS 44 .u16 v H with | some (s, b) => some (s, [b]) | none => none)
    | _ => none
  pre := WOk
  res := fun s _ => just (iv (idx (findN s.n (big s))))
  pick := fun _ _ _ => some ((), [0])
theorem IndexS_found : IndexS.spec.Found := by
  intro args H x σ h
  simp only [Sp.spec, IndexS] at h
  split at h
  rotate_left
  · cases h
  split at h
  rotate_left
  · cases h
  rename_i s b hs
  cases h
  obtain ⟨rfl, h2⟩ := fndS_found hs
  exact ⟨rfl, fun i ao hi => by
    match i, hi with
    | 0, hi => obtain rfl := Option.some.inj (Option.some.inj hi); exact h2⟩
noncomputable def LIndex (x : SS) : Loops := fun body s => match loopId body with
  | _ => some (cntLI Try.f47 body s x.n (fun k => anyN k (big x) = false) (fun k => [(8, iv k), (4, iv 0)]) (fun _ => s.heap))
set_option maxRecDepth 100000 in
theorem index_nf (s : SS) : (fnV Try.prog Γ0 (LIndex s) Try.f47 [ssV s 0, AV.fn (Fn.func 50) [] []] [some (wO s)] (Sp.good IndexS s)) = (let q := AO.arr (SS.rw s) 44 (SS.room s) (SS.m s) [Col.int IntKind.u16 (SS.l s)]; let q_1 := AV.sl (SS.nl s) 0 1 (SS.off s) (SS.n s) (SS.cap s); let q_2 := AV.fn (Fn.func 50) [] []; let q_3 := AV.val (Value.int IntKind.i64 0) = AV.val (Value.int IntKind.i64 0); let q_4 := AV.val (Value.int IntKind.i64 (↑(SS.n s) : Int)); ((0 ≤ SS.n s ∧ false = false) ∧ (q_3 ∧ q_3 ∧ q_4 = q_4 ∧ q_1 = q_1 ∧ q_2 = q_2 ∧ True) ∧ Bif (AO.deadB q) True (q = q) ∧ True) ∧ ∀ (x : Nat), let q := q; let q_5 := SS.off s + x; x ≤ SS.n s ∧ anyN x (big s) = false → let q_6 := Bif (AO.deadB (wO s)) True (q = q) ∧ True; let q := q; let q_7 := x + 1; let q_8 := decide (q_5 < SS.m s); let q_9 := List.getD (SS.l s) (SS.off s + Int.toNat (↑x : Int)) 0; let q_10 := q_1; let q_11 := q_2; let q_12 := AV.val (Value.int IntKind.i64 (idx (findN (SS.n s) (big s)))); let q_13 := q_4; let q_14 := AV.val (Value.int IntKind.i64 0); Bif (decide ((↑x : Int) < (↑(SS.n s) : Int))) (Bif (!SS.nl s && (inR (↑x : Int) (SS.n s) && q_8)) (Bif q_8 (Bif (decide (q_9 > 1)) ((AV.val (Value.int IntKind.i64 (↑x : Int)) = q_12 ∧ True) ∧ q_6) ((q_7 ≤ SS.n s ∧ anyN q_7 (big s) = false) ∧ SS.n s - q_7 < SS.n s - x ∧ (AV.val (Value.int IntKind.i64 (IntKind.wrap IntKind.i64 ((↑x : Int) + 1))) = AV.val (Value.int IntKind.i64 (↑q_7 : Int)) ∧ q_14 = q_14 ∧ q_13 = q_13 ∧ q_10 = q_10 ∧ q_11 = q_11 ∧ True) ∧ Bif (AO.deadB q) True (q = q) ∧ True)) False) False) ((AV.val (Value.int IntKind.i64 (-1)) = q_12 ∧ True) ∧ q_6)) := by kernel_rfl
set_option maxHeartbeats 1000000 in
theorem index_vc (s : SS) (hs : WOk s) : FnV Try.prog Γ0 (LIndex s) Try.f47 [ssV s 0, .fn (.func 50) [] []] [some (wO s)] (IndexS.good s) := by
  have hnl := hs.nl0
  obtain ⟨h1, h2, h3, h4, h5, h6, h7⟩ := hs
  have q1 : ∀ k, k < s.n → anyN k (big s) = false → s.l.getD (s.off + k) 0 > 1 → findN s.n (big s) = some k := fun k hk hb hp => findN_some hk (by simp only [big, hp, decide_true]) (fun j hj => anyN_not.1 hb j hj)
  have q2 : ∀ k, ¬ k < s.n → anyN k (big s) = false → findN s.n (big s) = none := fun k hk hb => findN_none fun j hj => anyN_not.1 hb j (by omega)
  refine FnV.of (index_nf _) ?_
  all_goals try simp only [Bif_need, Bif_True]
  all_goals try simp only [Bif_iff, eq_self, and_true, true_and, AV.val.injEq, AV.agg.injEq, AV.tup.injEq, AV.sl.injEq, AV.ptr.injEq, AV.mp.injEq, Value.int.injEq, Value.bool.injEq, Value.string.injEq, AO.cells.injEq, AO.arr.injEq, AO.mapc.injEq, List.cons.injEq, Col.bool.injEq, Col.int.injEq, Col.str.injEq, MCol.int.injEq, MCol.bool.injEq, MCol.str.injEq, decide_eq_true_eq, decide_eq_false_iff_not, Nat.zero_add, Nat.add_zero, implies_true, Bool.and_eq_true, inR_iff, List.drop_zero, List.take_nil, List.drop_nil, List.nil_append, Int.toNat_natCast, longEnough, colLen, Bool.not_true, Bool.not_false, Bool.true_or, Bool.or_eq_true, Bool.not_eq_true', Bool.not_eq_false', take_take_self, take_tab, one_col, tab_length, mix_length, List.length_take, Nat.min_eq_left, List.set_cons_zero, blt01, Bool.and_false, Bool.and_true, Bool.false_and, Bool.true_and, Bool.false_eq_true, Bool.true_eq_false, false_and, and_false, false_implies, anyN_succ]
  all_goals repeat' (first | apply And.intro | intro (⟨k, c, r⟩ : Nat × Nat × Nat) | intro _)
  all_goals try dsimp only at *
  all_goals try omega
  all_goals first
    | omega
    | exact hnl (by omega)
    | (rw [IntWalk.i64_in _ (by omega)]; omega)
    | (obtain ⟨_, hb⟩ := ‹_ ∧ anyN _ _ = false›; rw [q1 _ (by omega) hb ‹_›]; rfl)
    | (obtain ⟨_, hb⟩ := ‹_ ∧ anyN _ _ = false›; rw [q2 _ (by omega) hb]; rfl)
    | (refine ⟨‹_ ∧ _›.2, ?_⟩; simp only [big, decide_eq_false_iff_not]; assumption)
    | (simp only [Bool.or_eq_false_iff]; refine ⟨‹_ ∧ _›.2, ?_⟩; simp only [big, decide_eq_false_iff_not]; assumption)
theorem index_ok : CtOk Try.prog 47 IndexS.ct := Sp.ok Γ0_ok hm Try.func47 IndexS IndexS_found LIndex index_vc

noncomputable def Γ1 : Cts := Γ0.add 47 IndexS.ct
theorem Γ1_ok : CtsOk Try.prog Γ1 := Γ0_ok.add index_ok Try.func47 (by kernel_rfl) (by kernel_rfl)

/-! Equal, and SameVals: are these the same numbers? -/
def eqv (s t : SS) (j : Nat) : Bool := s.l.getD (s.off + j) 0 == t.l.getD (t.off + j) 0
def same (s t : SS) : Bool := decide (s.n = t.n) && allN s.n (eqv s t)
def fnd2 (T : Nat) (k : IntKind) (args : List AV) (H : AHeap) : Option ((SS × SS) × List Nat) := match args with
  | [v, w] => (match fndS T k v H, fndS T k w H with | some (s, b), some (t, c) => some ((s, t), [b, c]) | _, _ => none)
  | _ => none
theorem fnd2_found {T : Nat} {k : IntKind} {args : List AV} {H : AHeap} {x : SS × SS} {σ : List Nat} (h : fnd2 T k args H = some (x, σ)) : args = AV.rens σ [ssV x.1 0, ssV x.2 1] ∧ ∀ (i : Nat) (ao : AO), [some (ssO T k x.1), some (ssO T k x.2)][i]? = some (some ao) → H[ren1 σ i]? = some (some (ao.ren σ)) := by
  unfold fnd2 at h
  split at h
  rotate_left
  · cases h
  split at h
  rotate_left
  · cases h
  rename_i s b t c hs ht
  cases h
  obtain ⟨rfl, h2⟩ := fndS_found hs
  obtain ⟨rfl, h3⟩ := fndS_found ht
  exact ⟨rfl, fun i ao hi => by
    match i, hi with
    | 0, hi => obtain rfl := Option.some.inj (Option.some.inj hi); exact h2
    | 1, hi => obtain rfl := Option.some.inj (Option.some.inj hi); exact h3⟩
def SameVS : Sp where
  X := SS × SS
  Y := fun _ => Unit
  y0 := fun _ => ()
  pat := fun x => ([ssV x.1 0, ssV x.2 1], [some (wO x.1), some (wO x.2)])
  fnd := fnd2 44 .u16
  pre := fun x => WOk x.1 ∧ WOk x.2
  res := fun x _ => just (bv (same x.1 x.2))
  pick := fun _ _ _ => some ((), [0, 1])
theorem SameVS_found : SameVS.spec.Found := fun _ _ _ _ h => fnd2_found h
noncomputable def LSameV (x : SS × SS) : Loops := fun body s => match loopId body with
  | _ => some (cntLI Try.f15 body s x.1.n (fun k => allN k (eqv x.1 x.2) = true) (fun k => [(5, iv k), (4, bv false)]) (fun _ => s.heap))
set_option maxRecDepth 100000 in
theorem samev_nf (s : SS) (t : SS) : (fnV Try.prog Γnone (LSameV (s, t)) Try.f15 [ssV s 0, ssV t 1] [some (wO s), some (wO t)] (Sp.good SameVS (s, t))) = (let q := AO.arr (SS.rw t) 44 (SS.room t) (SS.m t) [Col.int IntKind.u16 (SS.l t)]; let q_1 := AO.arr (SS.rw s) 44 (SS.room s) (SS.m s) [Col.int IntKind.u16 (SS.l s)]; let q_2 := AV.sl (SS.nl s) 0 1 (SS.off s) (SS.n s) (SS.cap s); let q_3 := AV.sl (SS.nl t) 1 1 (SS.off t) (SS.n t) (SS.cap t); let q_4 := AV.val (Value.bool ((↑(SS.n s) : Int) != (↑(SS.n t) : Int))); let q_5 := AV.val (Value.bool false) = AV.val (Value.bool (same s t)) ∧ True; let q_6 := AV.val (Value.bool false) = AV.val (Value.bool false); let q_7 := AV.val (Value.int IntKind.i64 0); Bif ((↑(SS.n s) : Int) != (↑(SS.n t) : Int)) (q_5 ∧ Bif (AO.deadB (wO s)) True (q_1 = q_1) ∧ Bif (AO.deadB (wO t)) True (q = q) ∧ True) (((0 ≤ SS.n s ∧ true = true) ∧ (q_7 = q_7 ∧ q_6 ∧ q_4 = q_4 ∧ q_2 = q_2 ∧ q_3 = q_3 ∧ True) ∧ Bif (AO.deadB q_1) True (q_1 = q_1) ∧ Bif (AO.deadB q) True (q = q) ∧ True) ∧ ∀ (x : Nat), let q_8 := q_1; let q := q; let q_9 := SS.off s + x; let q_10 := SS.off t + x; x ≤ SS.n s ∧ allN x (eqv s t) = true → let q_11 := Bif (AO.deadB (wO s)) True (q_8 = q_8) ∧ Bif (AO.deadB (wO t)) True (q = q) ∧ True; let q_12 := q_8; let q := q; let q_13 := x + 1; let q_14 := decide (q_10 < SS.m t); let q_15 := decide (q_9 < SS.m s); let q_16 := q_3; let q_17 := q_2; let q_18 := q_4; Bif (decide ((↑x : Int) < (↑(SS.n s) : Int))) (Bif (!SS.nl s && (inR (↑x : Int) (SS.n s) && q_15)) (Bif q_15 (Bif (!SS.nl t && (inR (↑x : Int) (SS.n t) && q_14)) (Bif q_14 (Bif (List.getD (SS.l s) (SS.off s + Int.toNat (↑x : Int)) 0 != List.getD (SS.l t) (SS.off t + Int.toNat (↑x : Int)) 0) (q_5 ∧ q_11) ((q_13 ≤ SS.n s ∧ allN q_13 (eqv s t) = true) ∧ SS.n s - q_13 < SS.n s - x ∧ (AV.val (Value.int IntKind.i64 (IntKind.wrap IntKind.i64 ((↑x : Int) + 1))) = AV.val (Value.int IntKind.i64 (↑q_13 : Int)) ∧ q_6 ∧ q_18 = q_18 ∧ q_17 = q_17 ∧ q_16 = q_16 ∧ True) ∧ Bif (AO.deadB q_12) True (q_12 = q_12) ∧ Bif (AO.deadB q) True (q = q) ∧ True)) False) False) False) False) ((AV.val (Value.bool true) = AV.val (Value.bool (same s t)) ∧ True) ∧ q_11))) := by kernel_rfl
set_option maxHeartbeats 1000000 in
theorem sameV_vc (s t : SS) (hs : WOk s) (ht : WOk t) : FnV Try.prog Γnone (LSameV (s, t)) Try.f15 [ssV s 0, ssV t 1] [some (wO s), some (wO t)] (SameVS.good (s, t)) := by
  have hn1 := hs.nl0
  have hn2 := ht.nl0
  obtain ⟨h1, h2, h3, h4, h5, h6, h7⟩ := hs
  obtain ⟨k1, k2, k3, k4, k5, k6, k7⟩ := ht
  refine FnV.of (samev_nf _ _) ?_
  all_goals try simp only [Bif_need, Bif_True]
  all_goals try simp only [Bif_iff, eq_self, and_true, true_and, AV.val.injEq, AV.agg.injEq, AV.tup.injEq, AV.sl.injEq, AV.ptr.injEq, AV.mp.injEq, Value.int.injEq, Value.bool.injEq, Value.string.injEq, AO.cells.injEq, AO.arr.injEq, AO.mapc.injEq, List.cons.injEq, Col.bool.injEq, Col.int.injEq, Col.str.injEq, MCol.int.injEq, MCol.bool.injEq, MCol.str.injEq, decide_eq_true_eq, decide_eq_false_iff_not, Nat.zero_add, Nat.add_zero, implies_true, Bool.and_eq_true, inR_iff, List.drop_zero, List.take_nil, List.drop_nil, List.nil_append, Int.toNat_natCast, longEnough, colLen, Bool.not_true, Bool.not_false, Bool.true_or, Bool.or_eq_true, Bool.not_eq_true', Bool.not_eq_false', take_take_self, take_tab, one_col, tab_length, mix_length, List.length_take, Nat.min_eq_left, List.set_cons_zero, blt01, Bool.and_false, Bool.and_true, Bool.false_and, Bool.true_and, Bool.false_eq_true, Bool.true_eq_false, false_and, and_false, false_implies, allN_succ]
  all_goals repeat' (first | apply And.intro | intro (⟨k, c, r⟩ : Nat × Nat × Nat) | intro _)
  all_goals try dsimp only at *
  all_goals try omega
  all_goals first
    | omega
    | exact hn1 (by omega)
    | exact hn2 (by omega)
    | (rw [IntWalk.i64_in _ (by omega)]; omega)
    | grind [same, eqv, allN_iff]
theorem sameV_ok : CtOk Try.prog 15 SameVS.ct := Sp.ok CtsOk.none hm Try.func15 SameVS SameVS_found LSameV (fun x h => sameV_vc x.1 x.2 h.1 h.2)

end Go.Wk.P04
