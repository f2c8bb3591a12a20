/-
  Get; under the rows' own bounds.
-/
import Derived.Test.YtmbeekfbnfndgaaRe
namespace Go.Wk.P05
open Go Go.Vs Go.Proofs Go.Wk.P04
set_option linter.unusedSimpArgs false
set_option linter.unusedVariables false
set_option maxRecDepth 10000

/-! Get -/
def gotP (q : Rq) (x : SS) (y : Nat × Nat) : Rp := ⟨gcode x, ⟨gnl q x, true, 0, (gvals q x).length, (gvals q x).length + y.1, (gvals q x).length + y.1 + y.2, (gvals q x).length, gvals q x⟩⟩
theorem gotP_fold (q : Rq) (x : SS) (c r : Nat) : Rp.mk (gcode x) ⟨gnl q x, true, 0, (gvals q x).length, (gvals q x).length + c, (gvals q x).length + c + r, (gvals q x).length, gvals q x⟩ = gotP q x (c, r) := rfl
theorem may_y (q : Rq) (x : SS) (c r : Nat) : may q (gotP q x (c, r)) = may q (gotP q x (0, 0)) := rfl
theorem rpL_y (q : Rq) (x : SS) (c r : Nat) : rpL q (gotP q x (c, r)) = rpL q (gotP q x (0, 0)) := rfl
theorem rpN_y (q : Rq) (x : SS) (c r : Nat) : rpN q (gotP q x (c, r)) = rpN q (gotP q x (0, 0)) := rfl
/-- The bytes of what was got. -/
def rpB (q : Rq) (x : SS) : List Int := List.take (rpN q (gotP q x (0, 0))) (rpL q (gotP q x (0, 0)))
def errG (q : Rq) (x : SS) : Int :=
  bif !right q then 51 else bif !may q (gotP q x (0, 0)) then 51 else bif !decide (rpB q x = x.val) then 51 else bif gcode x != 0 then 52 else 0
def eok (q : Rq) (x : SS) : Bool := errG q x != 51
def gvalsO (q : Rq) (x : SS) : List Int := bif eok q x then gvals q x else []
theorem uwT_in {x : SS} (hx : BOk x) : ∀ v ∈ uwT x, 0 ≤ v ∧ v < 65536 := by
  intro v hv
  simp only [uwT, tab, List.mem_map, List.mem_range] at hv
  obtain ⟨j, hj, rfl⟩ := hv
  have h1 := byte_in hx (j := 2 * j) (by omega)
  have h2 := byte_in hx (j := 2 * j + 1) (by omega)
  simp only [wd]; omega
theorem hd2_ok {x : SS} (hx : BOk x) (hn : ¬ (x.n : Int) < 2) : BOk (atHd x (hd2 x)) := by
  obtain ⟨g1, g2, g3, g4, g5, g6, g7⟩ := hx
  refine ⟨g1, ?_, ?_, ?_, ?_, ?_, ?_⟩ <;> simp only [atHd, hd2]
  · unfold cutOff; split <;> omega
  · omega
  · omega
  · unfold cutOff; split <;> omega
  · intro h; have := g6 h; omega
  · intro i hi; have := g7 (i + 2) (by omega); rw [show x.off + cutOff x.cap (Int.toNat 2) + i = x.off + (i + 2) by unfold cutOff; split <;> omega]; exact this
theorem gotP_ok (q : Rq) {x : SS} (hx : BOk x) (y : Nat × Nat) : RpOk (gotP q x y) := by
  refine ⟨?_, ?_⟩
  · simp only [gotP, gcode, I64]
    cases h : isEx x with
    | false => simp
    | true =>
      have h2 : x.n = 2 := by
        simp only [isEx, Bool.and_eq_true, beq_iff_eq] at h; omega
      have := byte_in hx (j := 1) (by omega)
      simp only [cond_true]
      rw [IntWalk.i64_in _ (by omega)]; omega
  · have hl : (gvals q x).length ≤ 2000000 ∧ (∀ v ∈ gvals q x, 0 ≤ v ∧ v < 65536) ∧ (gnl q x = true → (gvals q x).length = 0) := by
      unfold gvals gnl
      cases hg : gnone q x with
      | true => simp
      | false =>
        have hn : ¬ (x.n : Int) < 2 := by
          simp only [gnone, Bool.or_eq_false_iff, decide_eq_false_iff_not] at hg; exact hg.2.2
        have hat := hd2_ok hx hn
        simp only [cond_false]
        cases rbits q.fc with
        | true =>
          simp only [cond_true, ub_length]
          refine ⟨Nat.le_trans (lenU_le _) (by omega), ub_in _ _, fun h => ?_⟩
          have : inU q.qty = false := by simpa using h
          simp [lenU, this]
        | false =>
          simp only [cond_false]
          have hl : (uwT (atHd x (hd2 x))).length = (x.n - 2) / 2 := tab_length ..
          have := hx.n
          rw [hl]
          exact ⟨by omega, uwT_in hat, fun h => Nat.eq_of_beq_eq_true h⟩
    exact newOk rfl hl.1 hl.2.1 hl.2.2
theorem rpL_in (q : Rq) (p : Rp) : ∀ v ∈ rpL q p, 0 ≤ v ∧ v < 256 := by
  unfold rpL
  cases p.code != 0 with
  | true =>
    intro v hv
    simp only [cond_true, List.mem_cons, List.not_mem_nil, or_false] at hv
    rcases hv with rfl | rfl
    · unfold or128; rw [wrap_u8]; omega
    · omega
  | false =>
    simp only [cond_false]
    cases isReads q.fc with
    | false => exact putL_in q
    | true =>
      intro v hv
      simp only [cond_true, List.mem_append, List.mem_cons, List.not_mem_nil, or_false] at hv
      rcases hv with (rfl | rfl) | hv
      · omega
      · omega
      · unfold data at hv
        cases hb : rbits q.fc with
        | true => rw [hb] at hv; exact bN_in _ _ v hv
        | false => rw [hb] at hv; exact wN_in _ _ v hv
theorem rp_len {q : Rq} (p : Rp) (hr : right q = true) : 0 < rpN q p ∧ rpN q p ≤ (rpL q p).length := by
  unfold rpN rpL
  cases p.code != 0 with
  | true => simp
  | false =>
    simp only [cond_false]
    cases isReads q.fc with
    | true => simp only [cond_true, List.length_append, List.length_cons, List.length_nil]; omega
    | false =>
      simp only [cond_false]
      cases hw : isW q.fc with
      | true => have := isW_len hr hw; simp only [cond_true]; omega
      | false => have := putL_len.2.2 hr; simp only [cond_false]; omega
theorem data_len (q : Rq) {p : Rp} (hp : RpOk p) : (data q p).length ≤ 2 * p.v.n + 1 := by
  unfold data
  cases rbits q.fc <;> simp only [cond_true, cond_false, wN_length, bN_length] <;> omega
theorem rpL_len {q : Rq} {p : Rp} (hr : right q = true) (hm : may q p = true) : (rpL q p).length ≤ 4010 := by
  unfold rpL
  cases hc : p.code != 0 with
  | true => simp
  | false =>
    simp only [cond_false]
    cases hi : isReads q.fc with
    | false => have := (putL_len (q := q)).1; simp only [cond_false]; omega
    | true =>
      have hq : ((p.v.n : Int) == q.qty) = true := by
        simp only [may, hc, hi, cond_false, Bool.not_true, Bool.and_eq_true] at hm; exact hm.1
      have hq := eq_of_beq hq
      obtain ⟨_, r2, _⟩ := right_parts hr
      have hn := right_nums r2
      have hk := kdAt_most q.fc
      have : (data q p).length ≤ 2 * p.v.n + 1 := by
        unfold data
        cases rbits q.fc <;> simp only [cond_true, cond_false, wN_length, bN_length] <;> omega
      simp only [cond_true, List.length_append, List.length_cons, List.length_nil]
      have : q.qty ≤ 2000 := by
        by_cases h0 : (kdAt q.fc).most = 0
        · have := hn.2.2.2.2.1 h0; omega
        · have := hn.2.2.2.2.2.1 (by omega); omega
      omega
def pA (q : Rq) (x : SS) (y : Nat × Nat) : SS := ⟨false, true, 0, rpN q (gotP q x (0, 0)), (rpL q (gotP q x (0, 0))).length + y.1, (rpL q (gotP q x (0, 0))).length + y.1 + y.2, (rpL q (gotP q x (0, 0))).length, rpL q (gotP q x (0, 0))⟩
theorem pA_fold (q : Rq) (x : SS) (c r : Nat) : SS.mk false true 0 (rpN q (gotP q x (0, 0))) ((rpL q (gotP q x (0, 0))).length + c) ((rpL q (gotP q x (0, 0))).length + c + r) (rpL q (gotP q x (0, 0))).length (rpL q (gotP q x (0, 0))) = pA q x (c, r) := rfl
theorem newOk2 {B n m c r : Nat} {lim : Int} {nl : Bool} {l : List Int} (h : l.length = m) (hnm : n ≤ m) (hn : n ≤ B) (hi : ∀ v ∈ l, 0 ≤ v ∧ v < lim) (hnl : nl = true → n = 0) : SSOk B lim ⟨nl, true, 0, n, m + c, m + c + r, m, l⟩ :=
  ⟨h, by show 0 + n ≤ m; omega, hn, by show n ≤ m + c; omega, by simp, hnl, fun i hi' => by
    have hi' : i < n := hi'
    simp only [Nat.zero_add]
    refine hi _ ?_
    rw [List.getD_eq_getElem?_getD, List.getElem?_eq_getElem (by omega)]
    exact List.getElem_mem _⟩
theorem pA_ok {q : Rq} {x : SS} (hr : right q = true) (hm : may q (gotP q x (0, 0)) = true) (y : Nat × Nat) : BOk (pA q x y) := by
  have h1 := rp_len (gotP q x (0, 0)) hr
  have h2 := rpL_len hr hm
  exact newOk2 rfl h1.2 (by omega) (rpL_in _ _) (fun h => by cases h)
theorem pA_val (q : Rq) (x : SS) (y : Nat × Nat) : (pA q x y).val = rpB q x := by simp [SS.val, pA, rpB]
noncomputable def Γk : Cts := Γj.add 21 GetAS.ct
theorem Γk_ok : CtsOk Try.prog Γk := Γj_ok.add geta_ok Try.func21 (by kernel_rfl) (by kernel_rfl)
def RgetS : Sp where
  X := Rq × SS
  Y := fun _ => Nat × Nat
  y0 := fun _ => (0, 0)
  pat := fun x => ([rqV x.1 0, ssV x.2 1], [some (wO x.1.v), some (bO x.2)])
  fnd := fun args H => match args with
    | [v, w] => (match fndQ v H, fndS 5 .u8 w H with | some (q, b), some (p, c) => some ((q, p), [b, c]) | _, _ => none)
    | _ => none
  pre := fun x => RqOk x.1 ∧ BOk x.2
  res := fun x y => ⟨.tup [.agg [iv (oz (eok x.1 x.2) (gcode x.2)), .sl (!eok x.1 x.2 || gnl x.1 x.2) 2 1 0 (gvalsO x.1 x.2).length ((gvalsO x.1 x.2).length + y.1)], iv (errG x.1 x.2)], [], [wvO (gvalsO x.1 x.2).length y (gvalsO x.1 x.2)]⟩
  pick := fun x v H => match v with
    | .tup [.agg [_, s], _] => (pkO (gvalsO x.1 x.2).length s H).map fun (y, b) => (y, [0, 1, b])
    | _ => none
theorem RgetS_found : RgetS.spec.Found := by
  intro args H x σ h
  simp only [Sp.spec, RgetS] at h
  split at h
  rotate_left
  · cases h
  split at h
  rotate_left
  · cases h
  rename_i q b p c hq hp
  cases h
  obtain ⟨rfl, h2⟩ := fndQ_found hq
  obtain ⟨rfl, h3⟩ := fndS_found hp
  exact ⟨rfl, fun i ao hi => by
    match i, hi with
    | 0, hi => obtain rfl := Option.some.inj (Option.some.inj hi); exact h2
    | 1, hi => obtain rfl := Option.some.inj (Option.some.inj hi); exact h3⟩
set_option maxRecDepth 100000 in
theorem rget_nf (q : Rq) (x : SS) : (fnV Try.prog Γk (fun (x : Code) (x_1 : AS) => none) Try.f11 [rqV q 0, ssV x 1] [some (wO (Rq.v q)), some (bO x)] (Sp.good RgetS (q, x))) = (True ∧ ∀ (x_1 : Unit), let q_1 := RqOk (Rq.mk (Rq.fc q) (Rq.addr q) (Rq.qty q) (Rq.v q) (Rq.to q)); q_1 ∧ ∀ (x_2 : Unit), let q_2 := AO.arr (SS.rw (Rq.v q)) 44 (SS.room (Rq.v q)) (SS.m (Rq.v q)) [Col.int IntKind.u16 (SS.l (Rq.v q))]; let q_3 := AO.arr (SS.rw x) 5 (SS.room x) (SS.m x) [Col.int IntKind.u8 (SS.l x)]; let q_4 := 0 - List.length (gvalsO q x); let q_5 := isReads (Rq.fc q) = isReads (Rq.fc q) ∧ (isReads (Rq.fc q) && Kd.bits (kdAt (Rq.fc q))) = rbits (Rq.fc q); let q_6 := AV.val (Value.int IntKind.i64 51) = AV.val (Value.int IntKind.i64 (errG q x)) ∧ True; let q_7 := List.length (gvalsO q x) = 0; let q_8 := AV.val (Value.int IntKind.i64 (oz (eok q x) (gcode x))); let q_9 := !eok q x || gnl q x; let q_10 := AV.val (Value.int IntKind.i64 0); Bif (!right q) ((((q_10 = q_8 ∧ (q_9 = true ∧ q_7 ∧ List.length (gvalsO q x) + q_4 = 0) ∧ True) ∧ q_6) ∧ True) ∧ Bif (AO.deadB (wO (Rq.v q))) True (q_2 = q_2) ∧ Bif (AO.deadB (bO x)) True (q_3 = q_3) ∧ Bif (AO.deadB (wvO (List.length (gvalsO q x)) (q_4, 0) (gvalsO q x))) True False ∧ True) ((BOk x ∧ q_5) ∧ ∀ (x_3 : Nat × Nat), let q_11 := List.length (gvals q x) + Prod.fst x_3; let q_12 := q_2; let q_13 := q_3; let q_14 := Rp.mk (gcode x) (SS.mk (gnl q x) true 0 (List.length (gvals q x)) q_11 (q_11 + Prod.snd x_3) (List.length (gvals q x)) (gvals q x)); let q_15 := List.length (gvalsO q x) + (q_11 - List.length (gvalsO q x)); let q_16 := q_5; let q_17 := q_11 + Prod.snd x_3 - q_11; let q_18 := q_8; let q_19 := [Col.int IntKind.u16 (gvalsO q x)]; let q_20 := [Col.int IntKind.u16 (gvals q x)]; let q_21 := q_9; (RpOk q_14 ∧ q_16) ∧ ∀ (x_4 : Unit), let q_22 := Bif (AO.deadB (wO (Rq.v q))) True (q_12 = q_12) ∧ Bif (AO.deadB (bO x)) True (q_13 = q_13) ∧ Bif (AO.deadB (wvO (List.length (gvalsO q x)) (q_11 - List.length (gvalsO q x), q_17) (gvalsO q x))) True (AO.arr true 44 (q_11 + Prod.snd x_3) (List.length (gvals q x)) q_20 = AO.arr true 44 (q_15 + q_17) (List.length (gvalsO q x)) q_19) ∧ True; let q_23 := q_14; let q_24 := AV.val (Value.int IntKind.i64 (gcode x)) = q_18 ∧ AV.sl (gnl q x) 5 1 0 (List.length (gvals q x)) q_11 = AV.sl q_21 5 1 0 (List.length (gvalsO q x)) q_15 ∧ True; let q_25 := q_12; let q_26 := q_11; let q_27 := q_13; let q_28 := q_4; let q_29 := AV.val (Value.int IntKind.i64 52) = AV.val (Value.int IntKind.i64 (errG q x)) ∧ True; let q_30 := q_6; let q_31 := q_10; let q_32 := q_7; let q_33 := gcode x != 0; let q_34 := q_18; let q_35 := q_21; Bif (!may q q_23) (Bif (!may q q_23) ((((q_31 = q_34 ∧ (q_35 = true ∧ q_32 ∧ List.length (gvalsO q x) + q_28 = 0) ∧ True) ∧ q_30) ∧ True) ∧ Bif (AO.deadB (wO (Rq.v q))) True (q_25 = q_25) ∧ Bif (AO.deadB (bO x)) True (q_27 = q_27) ∧ Bif (AO.deadB (wvO (List.length (gvalsO q x)) (q_28, 0) (gvalsO q x))) True False ∧ True) (Bif q_33 (((q_24 ∧ q_29) ∧ True) ∧ q_22) (((q_24 ∧ q_31 = AV.val (Value.int IntKind.i64 (errG q x)) ∧ True) ∧ True) ∧ q_22))) ((q_1 ∧ RpOk q_23 ∧ rright q q_23 = true ∧ q_16) ∧ ∀ (x_5 : Nat × Nat), let q_36 := SS.mk false true 0 (rpN q q_23) (List.length (rpL q q_23) + Prod.fst x_5) (List.length (rpL q q_23) + Prod.fst x_5 + Prod.snd x_5) (List.length (rpL q q_23)) (rpL q q_23); let q_37 := q_26 + Prod.snd x_3 - q_26; let q_38 := q_25; let q_39 := List.length (gvalsO q x) + (q_26 - List.length (gvalsO q x)); let q_40 := q_27; let q_41 := q_26; let q_42 := q_34; let q_43 := q_35; (BOk q_36 ∧ BOk x) ∧ ∀ (x_6 : Unit), let q_44 := SS.val q_36; let q_45 := Bif (AO.deadB (wO (Rq.v q))) True (q_38 = q_38) ∧ Bif (AO.deadB (bO x)) True (q_40 = q_40) ∧ Bif (AO.deadB (wvO (List.length (gvalsO q x)) (q_41 - List.length (gvalsO q x), q_37) (gvalsO q x))) True (AO.arr true 44 (q_41 + Prod.snd x_3) (List.length (gvals q x)) q_20 = AO.arr true 44 (q_39 + q_37) (List.length (gvalsO q x)) q_19) ∧ True; let q_46 := AV.val (Value.int IntKind.i64 (gcode x)) = q_42 ∧ AV.sl (gnl q x) 5 1 0 (List.length (gvals q x)) q_41 = AV.sl q_43 5 1 0 (List.length (gvalsO q x)) q_39 ∧ True; let q_47 := q_38; let q_48 := q_40; let q_49 := q_28; let q_50 := q_31; Bif (!decide (q_44 = SS.val x)) ((((q_50 = q_42 ∧ (q_43 = true ∧ q_32 ∧ List.length (gvalsO q x) + q_49 = 0) ∧ True) ∧ q_30) ∧ True) ∧ Bif (AO.deadB (wO (Rq.v q))) True (q_47 = q_47) ∧ Bif (AO.deadB (bO x)) True (q_48 = q_48) ∧ Bif (AO.deadB (wvO (List.length (gvalsO q x)) (q_49, 0) (gvalsO q x))) True False ∧ True) (Bif q_33 (((q_46 ∧ q_29) ∧ True) ∧ q_45) (((q_46 ∧ q_50 = AV.val (Value.int IntKind.i64 (errG q x)) ∧ True) ∧ True) ∧ q_45))))) := by kernel_rfl
set_option maxHeartbeats 1000000 in
theorem rget_vc (q : Rq) (x : SS) (hq : RqOk q) (hx : BOk x) : FnV Try.prog Γk (fun _ _ => none) Try.f11 [rqV q 0, ssV x 1] [some (wO q.v), some (bO x)] (RgetS.good (q, x)) := by
  have hg := gotP_ok q hx
  have e1 : right q = false → errG q x = 51 := fun h => by simp only [errG, h, Bool.not_false, cond_true]
  have e2 : right q = true → may q (gotP q x (0, 0)) = false → errG q x = 51 := fun h h' => by simp only [errG, h, h', Bool.not_true, Bool.not_false, cond_true, cond_false]
  have e3 : right q = true → may q (gotP q x (0, 0)) = true → ¬ rpB q x = x.val → errG q x = 51 := fun h h' h3 => by simp only [errG, h, h', decide_eq_false h3, Bool.not_true, Bool.not_false, cond_true, cond_false]
  have e4 : right q = true → may q (gotP q x (0, 0)) = true → rpB q x = x.val → (gcode x != 0) = true → errG q x = 52 := fun h h' h3 h4 => by simp only [errG, h, h', decide_eq_true h3, h4, Bool.not_true, Bool.not_false, cond_true, cond_false]
  have e5 : right q = true → may q (gotP q x (0, 0)) = true → rpB q x = x.val → (gcode x != 0) = false → errG q x = 0 := fun h h' h3 h4 => by simp only [errG, h, h', decide_eq_true h3, h4, Bool.not_true, Bool.not_false, cond_true, cond_false]
  have ok1 : errG q x = 51 → eok q x = false ∧ gvalsO q x = [] := fun h => by simp only [gvalsO, eok, h]; exact ⟨rfl, rfl⟩
  have ok2 : errG q x = 52 → eok q x = true ∧ gvalsO q x = gvals q x := fun h => by simp only [gvalsO, eok, h]; exact ⟨rfl, rfl⟩
  have ok3 : errG q x = 0 → eok q x = true ∧ gvalsO q x = gvals q x := fun h => by simp only [gvalsO, eok, h]; exact ⟨rfl, rfl⟩
  refine FnV.of (rget_nf _ _) ?_
  all_goals try simp only [Bif_need, Bif_True]
  all_goals try simp only [Bif_iff, eq_self, and_true, true_and, AV.val.injEq, AV.agg.injEq, AV.tup.injEq, AV.sl.injEq, AV.ptr.injEq, AV.mp.injEq, Value.int.injEq, Value.bool.injEq, Value.string.injEq, AO.cells.injEq, AO.arr.injEq, AO.mapc.injEq, List.cons.injEq, Col.bool.injEq, Col.int.injEq, Col.str.injEq, MCol.int.injEq, MCol.bool.injEq, MCol.str.injEq, decide_eq_true_eq, decide_eq_false_iff_not, Nat.zero_add, Nat.add_zero, implies_true, Bool.and_eq_true, inR_iff, List.drop_zero, List.take_nil, List.drop_nil, List.nil_append, Int.toNat_natCast, longEnough, colLen, Bool.not_true, Bool.not_false, Bool.true_or, Bool.or_eq_true, Bool.not_eq_true', Bool.not_eq_false', take_take_self, take_tab, one_col, tab_length, mix_length, List.length_take, Nat.min_eq_left, List.set_cons_zero, blt01, Bool.and_false, Bool.and_true, Bool.false_and, Bool.true_and, Bool.false_eq_true, Bool.true_eq_false, false_and, and_false, false_implies]
  all_goals repeat' (first | apply And.intro | intro (⟨k, c, r⟩ : Nat × Nat × Nat) | intro _)
  all_goals try dsimp only at *
  all_goals try omega
  all_goals try simp only [gotP_fold, may_y, rpL_y, rpN_y, pA_fold, pA_val] at *
  all_goals try (first
    | have ee := e1 ‹_›
    | have ee := e5 ‹_› ‹_› ‹_› ‹_›
    | have ee := e4 ‹_› ‹_› ‹_› ‹_›
    | have ee := e3 ‹_› ‹_› ‹_›
    | have ee := e2 ‹_› ‹_›)
  all_goals try (first
    | have oo := ok1 ee
    | have oo := ok2 ee
    | have oo := ok3 ee)
  all_goals try rw [oo.1]
  all_goals try rw [oo.2]
  all_goals first
    | assumption
    | exact hg _
    | omega
    | rfl
    | exact pA_ok ‹_› ‹_› _
    | exact ee.symm
    | exact .inl rfl
    | (show (right q && may q (gotP q x (0, 0))) = true; rw [(‹right q = true› : right q = true), (‹may q (gotP q x (0, 0)) = true› : may q (gotP q x (0, 0)) = true)]; rfl)
    | (have f1 : may q (gotP q x (0, 0)) = true := ‹_›; have f2 : may q (gotP q x (0, 0)) = false := ‹_›; rw [f1] at f2; cases f2; done)
    | (simp only [Bool.false_or, Bool.not_true]; done)
theorem rget_ok : CtOk Try.prog 11 RgetS.ct := Sp.ok Γk_ok hm Try.func11 RgetS RgetS_found (fun _ _ _ => none) (fun x h => rget_vc x.1 x.2 h.1 h.2)
end Go.Wk.P05
