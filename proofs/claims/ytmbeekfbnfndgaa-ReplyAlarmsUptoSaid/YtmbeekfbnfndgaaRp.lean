/-
  The walk of ReplyAlarms, and its plain law; under the rows' own bounds.
-/
import Derived.Test.YtmbeekfbnfndgaaRo
namespace Go.Wk.P05
open Go Go.Vs Go.Proofs Go.Wk.P04
set_option linter.unusedSimpArgs false
set_option linter.unusedVariables false
set_option maxRecDepth 10000

/-! ReplyAlarms -/
noncomputable def Γu : Cts := Γt.add 27 PbytesS.ct
theorem Γu_ok : CtsOk Try.prog Γu := Γt_ok.add pbytes_ok Try.func27 (by kernel_rfl) (by kernel_rfl)
noncomputable def Γv : Cts := Γu.add 17 (autoCt Try.prog Γu Try.f17)
theorem Γv_ok : CtsOk Try.prog Γv := Γu_ok.add (autoCt_ok Γu_ok hm Try.func17) Try.func17 (by kernel_rfl) (by kernel_rfl)
def alS (x : SS) (c : Int) (y : Nat × Nat) : SS := ⟨!isAlarm c, true, 0, (alarmL x c).length, (alarmL x c).length + y.1, (alarmL x c).length + y.1 + y.2, (alarmL x c).length, alarmL x c⟩
theorem alS_fold (x : SS) (c : Int) (y : Nat × Nat) : SS.mk (!isAlarm c) true 0 (alarmL x c).length ((alarmL x c).length + y.1) ((alarmL x c).length + y.1 + y.2) (alarmL x c).length (alarmL x c) = alS x c y := rfl
theorem alS_ok (x : SS) (c : Int) (y : Nat × Nat) : BOk (alS x c y) := by
  cases h : isAlarm c with
  | false =>
    have e : alarmL x c = [] := by simp only [alarmL, h, cond_false]
    exact newOk rfl (by rw [e]; simp) (by rw [e]; simp) (fun _ => by rw [e]; rfl)
  | true =>
    have e : alarmL x c = [or128 (first0 x), c % 256] := by simp only [alarmL, h, cond_true]
    refine newOk rfl (by rw [e]; simp) (fun v hv => ?_) (fun hh => by rw [h] at hh; cases hh)
    rw [e] at hv
    simp only [List.mem_cons, List.not_mem_nil, or_false] at hv
    rcases hv with rfl | rfl
    · unfold or128; rw [wrap_u8]; omega
    · omega
def pbS (q : Rq) (y : Nat × Nat) : SS := ⟨false, true, 0, (pbytes q).length, (pbytes q).length + y.1, (pbytes q).length + y.1 + y.2, (pbytes q).length, pbytes q⟩
theorem pbS_fold (q : Rq) (y : Nat × Nat) : SS.mk false true 0 (pbytes q).length ((pbytes q).length + y.1) ((pbytes q).length + y.1 + y.2) (pbytes q).length (pbytes q) = pbS q y := rfl
theorem pbytes_len' {q : Rq} (hq : RqOk q) (hn : q.v.n ≤ 3000) : (pbytes q).length ≤ 2000000 := by
  unfold pbytes
  rw [m8_of (by omega)]
  cases q.fc == 5 <;> cases q.fc == 6 || q.fc == 22 <;> cases q.fc == 15 <;> cases q.fc == 16 <;> cases q.fc == 23 <;>
    simp only [cond_true, cond_false, List.length_append, List.length_cons, List.length_nil, w1_length, wN_length, bR_length] <;> omega
theorem pbS_ok {q : Rq} (hq : RqOk q) (hn : q.v.n ≤ 3000) (y : Nat × Nat) : BOk (pbS q y) := newOk rfl (pbytes_len' hq hn) (pbytes_in q) (fun h => by cases h)
theorem pbS_first (q : Rq) (y : Nat × Nat) : first0 (pbS q y) = q.fc % 256 := by
  obtain ⟨l, h⟩ := pbytes_cons q
  have e : Nat.beq (pbytes q).length 0 = false := by rw [h]; rfl
  have g : (pbytes q).getD 0 0 = q.fc % 256 := by rw [h]; rfl
  have g' : (pbytes q).getD (0 + 0) 0 = q.fc % 256 := g
  simp only [first0, pbS, SS.get, e, g', cond_false]
set_option maxRecDepth 100000 in
theorem ralarms_nf (q : Rq) (c : Int) : (fnV Try.prog Γv (fun (x : Code) (x_1 : AS) => none) Try.f5 [rqV q 0, AV.val (Value.int IntKind.u8 c)] [some (wO (Rq.v q))] fun (v : AV) (x : AHeap) => v = bv true) = (True ∧ ∀ (x : Unit), let q_1 := RqOk (Rq.mk (Rq.fc q) (Rq.addr q) (Rq.qty q) (Rq.v q) (Rq.to q)); let q_2 := AV.val (Value.bool true) = AV.val (Value.bool true); Bif (decide ((↑(SS.n (Rq.v q)) : Int) > 3000)) q_2 (q_1 ∧ ∀ (x : Unit), let q_3 := SS.mk true true 0 0 0 0 0 []; let q_4 := IntKind.wrap IntKind.i64 (IntKind.wrap IntKind.i64 (Int.tmod c 4) + 1); let q_5 := q_1; let q_6 := q_2; Bif (!right q) q_6 (q_5 ∧ ∀ (x : Unit), let q_7 := List.length (alarmL q_3 q_4); let q_8 := q_4; let q_9 := q_3; let q_10 := q_5; let q_11 := AV.val (Value.bool false) = AV.val (Value.bool true); let q_12 := q_6; Bif (!right q) (BOk q_9 ∧ ∀ (x : Nat × Nat), let q_13 := SS.mk (!isAlarm q_8) true 0 q_7 (q_7 + Prod.fst x) (q_7 + Prod.fst x + Prod.snd x) q_7 (alarmL q_9 q_8); let q_14 := q_9; let q_15 := q_8; let q_16 := q_10; (q_16 ∧ BOk q_13) ∧ ∀ (x_1 : Nat × Nat), let q_17 := Rp.mk (oz (eok q q_13) (gcode q_13)) (SS.mk (!eok q q_13 || gnl q q_13) true 0 (List.length (gvalsO q q_13)) (List.length (gvalsO q q_13) + Prod.fst x_1) (List.length (gvalsO q q_13) + Prod.fst x_1 + Prod.snd x_1) (List.length (gvalsO q q_13)) (gvalsO q q_13)); let q_18 := q_13; let q_19 := alarmL q_14 q_15; let q_20 := q_15; let q_21 := q_11; Bif (errG q q_18 == 52) (Bif (oz (eok q q_18) (gcode q_18) == q_20) (Bif ((↑(List.length (gvalsO q q_18)) : Int) == 0) ((q_16 ∧ RpOk q_17) ∧ ∀ (x_2 : Nat × Nat), let q_22 := rpN' q q_17; let q_23 := rpL' q q_17; let q_24 := q_18; let q_25 := List.length q_19; let q_26 := q_19; let q_27 := 0 + q_25; let q_28 := 0 + q_22; let q_29 := q_20; let q_30 := List.length (gvalsO q q_24) + Prod.fst x_1; Bif (decide (q_28 ≤ List.length q_23) && (longEnough q_28 [Col.int IntKind.u8 q_23] && (!!rright q (Rp.mk (oz (eok q q_24) (gcode q_24)) (SS.mk (!eok q q_24 || gnl q q_24) true 0 (List.length (gvalsO q q_24)) q_30 (q_30 + Prod.snd x_1) (List.length (gvalsO q q_24)) (gvalsO q q_24))) || decide (q_22 = 0)))) (Bif (decide (q_27 ≤ q_25) && (longEnough q_27 [Col.int IntKind.u8 q_26] && (!!isAlarm q_29 || decide (q_25 = 0)))) (Bif (ByteArray.toList (strOfNums (List.take q_22 (List.drop 0 q_23))) == ByteArray.toList (strOfNums (List.take q_25 (List.drop 0 q_26)))) (BOk q_24 ∧ ∀ (x_3 : Nat × Nat), let q := q_25; let q_31 := q_29; let q_32 := q + Prod.fst x; BOk (SS.mk (!isAlarm q_31) true 0 q q_32 (q_32 + Prod.snd x) q (alarmL q_14 q_31)) ∧ ∀ (x : Nat × Nat), q_12) q_21) False) False) q_21) q_21) q_21) ((q_10 ∧ right q = true) ∧ ∀ (x : Nat × Nat), let q_13 := List.length (alarmL (SS.mk false true 0 (List.length (pbytes q)) (List.length (pbytes q) + Prod.fst x) (List.length (pbytes q) + Prod.fst x + Prod.snd x) (List.length (pbytes q)) (pbytes q)) q_8); let q_14 := SS.mk false true 0 (List.length (pbytes q)) (List.length (pbytes q) + Prod.fst x) (List.length (pbytes q) + Prod.fst x + Prod.snd x) (List.length (pbytes q)) (pbytes q); let q_15 := q_8; BOk q_14 ∧ ∀ (x_1 : Nat × Nat), let q_16 := SS.mk (!isAlarm q_15) true 0 q_13 (q_13 + Prod.fst x_1) (q_13 + Prod.fst x_1 + Prod.snd x_1) q_13 (alarmL q_14 q_15); let q_17 := List.length (pbytes q) + Prod.fst x; let q_18 := q_15; let q_19 := q_10; (q_19 ∧ BOk q_16) ∧ ∀ (x_2 : Nat × Nat), let q_20 := Rp.mk (oz (eok q q_16) (gcode q_16)) (SS.mk (!eok q q_16 || gnl q q_16) true 0 (List.length (gvalsO q q_16)) (List.length (gvalsO q q_16) + Prod.fst x_2) (List.length (gvalsO q q_16) + Prod.fst x_2 + Prod.snd x_2) (List.length (gvalsO q q_16)) (gvalsO q q_16)); let q_21 := q_16; let q_22 := alarmL (SS.mk false true 0 (List.length (pbytes q)) q_17 (q_17 + Prod.snd x) (List.length (pbytes q)) (pbytes q)) q_18; let q_23 := q_18; let q_24 := q_11; Bif (errG q q_21 == 52) (Bif (oz (eok q q_21) (gcode q_21) == q_23) (Bif ((↑(List.length (gvalsO q q_21)) : Int) == 0) ((q_19 ∧ RpOk q_20) ∧ ∀ (x_3 : Nat × Nat), let q_25 := rpN' q q_20; let q_26 := rpL' q q_20; let q_27 := q_21; let q_28 := List.length q_22; let q_29 := q_22; let q_30 := 0 + q_25; let q_31 := 0 + q_28; let q_32 := q_23; let q_33 := List.length (gvalsO q q_27) + Prod.fst x_2; Bif (decide (q_30 ≤ List.length q_26) && (longEnough q_30 [Col.int IntKind.u8 q_26] && (!!rright q (Rp.mk (oz (eok q q_27) (gcode q_27)) (SS.mk (!eok q q_27 || gnl q q_27) true 0 (List.length (gvalsO q q_27)) q_33 (q_33 + Prod.snd x_2) (List.length (gvalsO q q_27)) (gvalsO q q_27))) || decide (q_25 = 0)))) (Bif (decide (q_31 ≤ q_28) && (longEnough q_31 [Col.int IntKind.u8 q_29] && (!!isAlarm q_32 || decide (q_28 = 0)))) (Bif (ByteArray.toList (strOfNums (List.take q_25 (List.drop 0 q_26))) == ByteArray.toList (strOfNums (List.take q_28 (List.drop 0 q_29)))) (BOk q_27 ∧ ∀ (x_4 : Nat × Nat), let q_34 := q_28; let q_35 := q_32; let q_36 := q_17; let q_37 := q_34 + Prod.fst x_1; BOk (SS.mk (!isAlarm q_35) true 0 q_34 q_37 (q_37 + Prod.snd x_1) q_34 (alarmL (SS.mk false true 0 (List.length (pbytes q)) q_36 (q_36 + Prod.snd x) (List.length (pbytes q)) (pbytes q)) q_35)) ∧ ∀ (x : Nat × Nat), q_12) q_24) False) False) q_24) q_24) q_24)))) := by kernel_rfl
set_option maxHeartbeats 1000000 in
theorem ralarms_vc (q : Rq) (c : Int) (hq : RqOk q) (hc : 0 ≤ c ∧ c < 256) : FnV Try.prog Γv (fun _ _ => none) Try.f5 [rqV q 0, .val (.int .u8 c)] [some (wO q.v)] (fun v _ => v = bv true) := by
  refine FnV.of (ralarms_nf _ _) ?_
  have hq' : RqOk ⟨q.fc, q.addr, q.qty, q.v, q.to⟩ := hq
  refine ⟨trivial, fun _ => ?_⟩
  rw [Bif_iff]
  refine ⟨fun _ => (by first | exact rfl | exact trivial), fun h3 => ⟨hq', fun _ => ?_⟩⟩
  have h3 : q.v.n ≤ 3000 := by have := of_decide_eq_false h3; omega
  rw [Bif_iff]
  refine ⟨fun _ => (by first | exact rfl | exact trivial), fun hr1 => ⟨hq', fun _ => ?_⟩⟩
  have r1 : right q = true := by simpa using hr1
  have hk : ∃ k, IntKind.i64.wrap (IntKind.i64.wrap (c.tmod 4) + 1) = k ∧ 1 ≤ k ∧ k ≤ 4 := ⟨_, rfl, by
    rw [Int.tmod_eq_emod_of_nonneg hc.1, IntWalk.i64_in (c % 4) (by omega), IntWalk.i64_in _ (by omega)]; omega⟩
  obtain ⟨k, hk, hk1, hk4⟩ := hk
  simp only [hk, alS_fold, pbS_fold, rgS_fold, rgP_fold, r1, Bool.not_true]
  rw [Bif_iff]
  refine ⟨fun h => Bool.noConfusion h, fun _ => ⟨⟨hq', trivial⟩, fun y => ?_⟩⟩
  have hx := alS_ok (pbS q y) k
  have ia : isAlarm k = true := by simp only [isAlarm, Bool.and_eq_true, decide_eq_true_eq]; omega
  obtain ⟨k1, k2, k3⟩ := right_parts r1
  have hfc := kd_low k1
  have al : alarmL (pbS q y) k = [or128 (q.fc % 256), k % 256] := by simp only [alarmL, ia, cond_true, pbS_first]
  have hnil : WOk ⟨true, true, 0, 0, 0, 0, 0, []⟩ := newOk (c := 0) (r := 0) rfl (by decide) (by decide) (by decide)
  have hp : RpOk ⟨k, ⟨true, true, 0, 0, 0, 0, 0, []⟩⟩ := rp_lit (by omega) hnil
  have hk0 : (k != 0) = true := by simp; omega
  have hrp : rright q ⟨k, ⟨true, true, 0, 0, 0, 0, 0, []⟩⟩ = true := by
    simp only [rright, r1, Bool.true_and, may, hk0, cond_true, Bool.and_eq_true, decide_eq_true_eq]
    exact ⟨⟨hk1, hk4⟩, rfl⟩
  have hv : ∀ y', (alS (pbS q y) k y').val = rpV' q ⟨k, ⟨true, true, 0, 0, 0, 0, 0, []⟩⟩ := fun y' => by
    have e : (alS (pbS q y) k y').val = alarmL (pbS q y) k := SS.val_all rfl
    rw [e, al]
    simp only [rpV', rpN, rpL, hk0, cond_true]; rfl
  have e0 : ∀ y', errG q (alS (pbS q y) k y') = 52 := fun y' => by rw [rput_get hq hp hrp (hx y') (hv y')]; simp only [hk0, cond_true]
  have e1 : ∀ y', gcode (alS (pbS q y) k y') = k := fun y' => (rgot hq hp hrp (hx y') (hv y') (0, 0)).code
  have e51 : ∀ y', errG q (alS (pbS q y) k y') ≠ 51 := fun y' => by rw [e0]; decide
  have e2 : ∀ y', eok q (alS (pbS q y) k y') = true := fun y' => eok_yes (e51 y')
  have e3 : ∀ y', gvalsO q (alS (pbS q y) k y') = [] := fun y' => by
    have := (rgot hq hp hrp (hx y') (hv y') (0, 0)).n
    have h : (gvals q (alS (pbS q y) k y')).length = 0 := this
    simp only [gvalsO, e2, cond_true]
    exact List.eq_nil_of_length_eq_zero h
  have hg : ∀ y' y'', RpEq (rgP q (alS (pbS q y) k y') y'') ⟨k, ⟨true, true, 0, 0, 0, 0, 0, []⟩⟩ := fun y' y'' => by
    rw [rgP_yes (e51 y')]; exact rgot hq hp hrp (hx y') (hv y') y''
  have hgo : ∀ y' y'', RpOk (rgP q (alS (pbS q y) k y') y'') := fun y' y'' => rgP_ok q (hx y') y''
  have hgr : ∀ y' y'', rright q (rgP q (alS (pbS q y) k y') y'') = true := fun y' y'' => by
    have := hrp
    simp only [rright, (hg y' y'').may] at this ⊢; exact this
  have hgN : ∀ y' y'', rpN' q (rgP q (alS (pbS q y) k y') y'') = 2 := fun y' y'' => by
    simp only [rpN', hgr, cond_true, (hg y' y'').rpN]
    simp only [rpN, hk0, cond_true]
  have hgL : ∀ y' y'', rpL' q (rgP q (alS (pbS q y) k y') y'') = [or128 (q.fc % 256), k % 256] := fun y' y'' => by
    simp only [rpL', hgr, cond_true, (hg y' y'').rpL]
    simp only [rpL, hk0, cond_true]
  have hpb := pbS_ok hq h3 y
  have o1 : ∀ n, oz true n = n := fun n => rfl
  simp only [e0, e1, e2, e3, hgr, hgN, hgL, al, ia, o1, beq_self_eq_true]
  refine ⟨hpb, fun y1 => ⟨⟨hq', hx y1⟩, fun y2 => ?_⟩⟩
  simp [Bif_iff, hx, hgo, hq', longEnough, colLen]
end Go.Wk.P05
