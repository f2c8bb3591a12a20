/-
  The walk of PduBack; under the rows' own bounds.
-/
import Derived.Test.YtmfcklgenkjbaaaPp
namespace Go.Wk.P04
open Go Go.Vs Go.Proofs
set_option linter.unusedSimpArgs false
set_option linter.unusedVariables false
set_option maxRecDepth 10000

/-! what Put and Get make, under names -/
def pS (q : Rq) (y : Nat × Nat) : SS := ⟨!right q, true, 0, (putL q).length, (putL q).length + (roomIf (right q) y).1, (putL q).length + (roomIf (right q) y).1 + (roomIf (right q) y).2, (putL q).length, putL q⟩
theorem pS_fold (q : Rq) (y : Nat × Nat) : SS.mk (!right q) true 0 (putL q).length ((putL q).length + (roomIf (right q) y).1) ((putL q).length + (roomIf (right q) y).1 + (roomIf (right q) y).2) (putL q).length (putL q) = pS q y := rfl
theorem putL_in (q : Rq) : ∀ v ∈ putL q, 0 ≤ v ∧ v < 256 := by
  unfold putL
  cases right q with
  | true => exact putB_in _ _
  | false => intro v hv; cases hv
theorem pS_ok (q : Rq) (y : Nat × Nat) : BOk (pS q y) :=
  newOk rfl (Nat.le_trans putL_len.1 (by omega)) (putL_in q) (fun h => by
    have : right q = false := by simpa using h
    simp [putL, this])
theorem pS_val (q : Rq) (y : Nat × Nat) : (pS q y).val = putL q := SS.val_all rfl
def gS (x : SS) (y : Nat × Nat) : SS := ⟨!okG x || nlG (kG x) x, true, 0, (valsO x).length, (valsO x).length + y.1, (valsO x).length + y.1 + y.2, (valsO x).length, valsO x⟩
theorem gS_fold (x : SS) (y : Nat × Nat) : SS.mk (!okG x || nlG (kG x) x) true 0 (valsO x).length ((valsO x).length + y.1) ((valsO x).length + y.1 + y.2) (valsO x).length (valsO x) = gS x y := rfl
def gQ (x : SS) (y : Nat × Nat) : Rq := ⟨oz (okG x) (IntKind.i64.wrap (x.get 0)), oz (okG x) (wordW (atH x (hd0 x))), oz (okG x) (qtyG (kG x) x), gS x y, oz (okG x) (toG (kG x) x)⟩
theorem gQ_fold (x : SS) (y : Nat × Nat) : Rq.mk (oz (okG x) (IntKind.i64.wrap (x.get 0))) (oz (okG x) (wordW (atH x (hd0 x)))) (oz (okG x) (qtyG (kG x) x)) (gS x y) (oz (okG x) (toG (kG x) x)) = gQ x y := rfl
theorem okG_yes {x : SS} (h : codeG x = 0) : okG x = true := by rw [okG, h]; rfl
theorem okG_no {x : SS} (h : ¬ codeG x = 0) : okG x = false := by rw [okG]; simpa using h
theorem gQ_yes {x : SS} (h : codeG x = 0) (y : Nat × Nat) : gQ x y = rqG (kG x) x y := by
  simp only [gQ, rqG, gS, vG, okG_yes h, oz, valsO, cond_true, Bool.not_true, Bool.false_or]
theorem gQ_no {x : SS} (h : ¬ codeG x = 0) (y : Nat × Nat) : gQ x y = ⟨0, 0, 0, ⟨true, true, 0, 0, y.1, y.1 + y.2, 0, []⟩, 0⟩ := by
  simp only [gQ, gS, okG_no h, oz, valsO, cond_false, Bool.not_false, Bool.true_or, List.length_nil, Nat.zero_add]
theorem gQ_ok {x : SS} (hx : BOk x) (y : Nat × Nat) : RqOk (gQ x y) := by
  by_cases h : codeG x = 0
  · rw [gQ_yes h]; exact rqG_ok hx (get_put hx h).1 y
  · rw [gQ_no h]
    refine rq_lit (by decide) (by decide) (by decide) (by decide) ?_
    have := newOk (B := 2000000) (n := 0) (c := y.1) (r := y.2) (lim := 65536) (nl := true) (l := []) rfl (by omega) (by simp) (fun _ => rfl)
    simpa only [Nat.zero_add] using this
theorem gS_ok {x : SS} (hx : BOk x) (y : Nat × Nat) : WOk (gS x y) := (gQ_ok hx y).v
theorem RqEq.trans {a b c : Rq} (h : RqEq a b) (g : RqEq b c) : RqEq a c := ⟨h.fc.trans g.fc, h.addr.trans g.addr, h.qty.trans g.qty, h.to.trans g.to, h.n.trans g.n, fun j hj => (h.v j hj).trans (g.v j (by rw [← h.n]; exact hj))⟩
theorem rqG_y (k : Kd) (x : SS) (y : Nat × Nat) : RqEq (rqG k x y) (rqG k x (0, 0)) := ⟨rfl, rfl, rfl, rfl, rfl, fun _ _ => rfl⟩
/-- Put, then Get. -/
theorem pg_code {q : Rq} (hq : RqOk q) (hr : right q = true) (y : Nat × Nat) : codeG (pS q y) = 0 := (put_get hq hr (pS_ok q y) (pS_val q y)).1
theorem pg_eq {q : Rq} (hq : RqOk q) (hr : right q = true) (y y' : Nat × Nat) : RqEq (gQ (pS q y) y') q := by
  obtain ⟨h1, h2⟩ := put_get hq hr (pS_ok q y) (pS_val q y)
  rw [gQ_yes h1]
  exact (rqG_y _ _ _).trans h2
theorem RqEq.same {q p : Rq} (h : RqEq q p) : same q.v p.v = true := by
  simp only [Go.Wk.P04.same, Bool.and_eq_true, decide_eq_true_eq, allN_iff, eqv, beq_iff_eq]
  exact ⟨h.n, h.v⟩
theorem RqEq.putL {q p : Rq} (h : RqEq q p) : putL q = putL p := by
  simp only [Go.Wk.P04.putL, h.right]
  cases hr : Go.Wk.P04.right p with
  | false => rfl
  | true =>
    simp only [cond_true]
    have hr' : Go.Wk.P04.right q = true := by rw [h.right]; exact hr
    rw [h.putB _ (fc_pos hr'), h.fc]
/-- Get, then Put. -/
theorem gp_right {x : SS} (hx : BOk x) (h : codeG x = 0) (y : Nat × Nat) : right (gQ x y) = true := by
  rw [gQ_yes h, (rqG_y _ _ _).right]; exact (get_put hx h).2.1
theorem gp_put {x : SS} (hx : BOk x) (h : codeG x = 0) (y : Nat × Nat) : putL (gQ x y) = x.val := by
  rw [gQ_yes h, (rqG_y _ _ _).putL]; exact (get_put hx h).2.2
theorem same_nil {s t : SS} (hs : s.n = 0) (ht : t.n = 0) : same s t = true := by simp [same, hs, ht, allN]

/-! PduBack, PduWrong -/
set_option maxRecDepth 100000 in
theorem back04_nf (q : Rq) (b : SS) : (fnV Try.prog Γ11 (fun (x : Code) (x_1 : AS) => none) Try.f3 [rqV q 0, ssV b 1] [some (wO (Rq.v q)), some (bO b)] fun (v : AV) (x : AHeap) => v = bv true) = (True ∧
  ∀ (x : Unit),
    let q_1 := RqOk (Rq.mk (Rq.fc q) (Rq.addr q) (Rq.qty q) (Rq.v q) (Rq.to q));
    let q_2 := AV.val (Value.bool true) = AV.val (Value.bool true);
    Bif (decide ((↑(SS.n (Rq.v q)) : Int) > 3000)) q_2
      (Bif (decide ((↑(SS.n b) : Int) > 3000)) q_2
        (q_1 ∧
          ∀ (x : Nat × Nat),
            let q_3 := List.length (putL q) + Prod.fst (roomIf (right q) x);
            let q_4 := (↑(List.length (putL q)) : Int);
            q_1 ∧
              ∀ (x_1 : Unit),
                let q_5 := SS.mk (!right q) true 0 (List.length (putL q)) q_3 (q_3 + Prod.snd (roomIf (right q) x)) (List.length (putL q)) (putL q);
                let q_6 := SS.mk true true 0 0 0 0 0 [];
                let q_7 := decide (q_4 > 0);
                let q_8 := AV.val (Value.bool (decide (codeG b ≤ 3))) = AV.val (Value.bool true);
                let q_9 := oz (okG b) (IntKind.wrap IntKind.i64 (SS.get b 0));
                let q_10 := AV.val (Value.bool false) = AV.val (Value.bool true);
                let q_11 := !SS.nl b || decide (SS.n b = 0);
                let q_12 := decide (codeG b ≥ 1);
                let q_13 := oz (okG b) (wordW (atH b (hd0 b)));
                let q_14 := !okG b || nlG (kG b) b;
                let q_15 := oz (okG b) (qtyG (kG b) b);
                let q_16 := oz (okG b) (toG (kG b) b);
                let q_17 := codeG b != 0;
                let q_18 := ByteArray.toList (strOfNums (List.take (SS.n b) (List.drop (SS.off b) (SS.l b))));
                let q_19 := SS.off b + SS.n b;
                let q_20 := [Col.int IntKind.u8 (SS.l b)];
                let q_21 := q_4;
                Bif (!q_7 == right q) q_10
                  (Bif (decide (q_21 > 253)) q_10
                    (Bif q_7
                      (BOk q_5 ∧
                        ∀ (x : Nat × Nat),
                          let q_22 := q_5;
                          let q_23 := q_10;
                          let q_24 := List.length (valsO q_22) + Prod.fst x;
                          Bif (codeG q_22 != 0) q_23
                            (Bif (oz (okG q_22) (IntKind.wrap IntKind.i64 (SS.get q_22 0)) == Rq.fc q)
                              (Bif (oz (okG q_22) (wordW (atH q_22 (hd0 q_22))) == Rq.addr q)
                                (Bif (oz (okG q_22) (qtyG (kG q_22) q_22) == Rq.qty q)
                                  (Bif (oz (okG q_22) (toG (kG q_22) q_22) == Rq.to q)
                                    ((WOk (SS.mk (!okG q_22 || nlG (kG q_22) q_22) true 0 (List.length (valsO q_22)) q_24 (q_24 + Prod.snd x) (List.length (valsO q_22)) (valsO q_22)) ∧ WOk (Rq.v q)) ∧
                                      ∀ (x_2 : Unit),
                                        let q_25 := q_22;
                                        let q_26 := List.length (valsO q_25) + Prod.fst x;
                                        let q_27 := q_9;
                                        let q_28 := q_23;
                                        let q_29 := q_14;
                                        let q_30 := q_13;
                                        let q_31 := q_16;
                                        let q_32 := q_15;
                                        Bif (!same (SS.mk (!okG q_25 || nlG (kG q_25) q_25) true 0 (List.length (valsO q_25)) q_26 (q_26 + Prod.snd x) (List.length (valsO q_25)) (valsO q_25)) (Rq.v q)) q_28
                                          (BOk b ∧
                                            ∀ (x : Nat × Nat),
                                              let q := Rq.mk q_27 q_30 q_32 (SS.mk q_29 true 0 (List.length (valsO b)) (List.length (valsO b) + Prod.fst x) (List.length (valsO b) + Prod.fst x + Prod.snd x) (List.length (valsO b)) (valsO b)) q_31;
                                              let q_33 := List.length (valsO b) + Prod.fst x;
                                              let q_34 := q_28;
                                              let q_35 := q_6;
                                              let q_36 := q_29;
                                              let q_37 := q_27;
                                              let q_38 := q_30;
                                              let q_39 := q_31;
                                              let q_40 := q_32;
                                              Bif q_17
                                                (Bif (q_37 == 0)
                                                  (Bif (q_38 == 0)
                                                    (Bif (q_40 == 0)
                                                      (Bif (q_39 == 0)
                                                        ((WOk (SS.mk q_36 true 0 (List.length (valsO b)) q_33 (q_33 + Prod.snd x) (List.length (valsO b)) (valsO b)) ∧ WOk q_35) ∧
                                                          ∀ (x_3 : Unit),
                                                            let q := q_33;
                                                            let q_41 := q_34;
                                                            Bif (same (SS.mk q_36 true 0 (List.length (valsO b)) q (q + Prod.snd x) (List.length (valsO b)) (valsO b)) q_35) (Bif q_12 q_8 q_41) q_41)
                                                        q_34)
                                                      q_34)
                                                    q_34)
                                                  q_34)
                                                (RqOk q ∧
                                                  ∀ (x_3 : Unit),
                                                    let q := q;
                                                    Bif (right q)
                                                      (RqOk q ∧
                                                        ∀ (x_4 : Nat × Nat),
                                                          let q_41 := List.length (putL q);
                                                          let q := putL q;
                                                          let q_42 := 0 + q_41;
                                                          let q_43 := q_19;
                                                          let q_44 := q_33;
                                                          Bif (decide (q_42 ≤ q_41) && (longEnough q_42 [Col.int IntKind.u8 q] && (!!right (Rq.mk q_37 q_38 q_40 (SS.mk q_36 true 0 (List.length (valsO b)) q_44 (q_44 + Prod.snd x) (List.length (valsO b)) (valsO b)) q_39) || decide (q_41 = 0)))) (Bif (decide (q_43 ≤ SS.m b) && (longEnough q_43 q_20 && q_11)) (AV.val (Value.bool (ByteArray.toList (strOfNums (List.take q_41 (List.drop 0 q))) == q_18)) = AV.val (Value.bool true)) False) False)
                                                      q_34)))
                                    q_23)
                                  q_23)
                                q_23)
                              q_23))
                      (BOk b ∧
                        ∀ (x : Nat × Nat),
                          let q := Rq.mk q_9 q_13 q_15 (SS.mk q_14 true 0 (List.length (valsO b)) (List.length (valsO b) + Prod.fst x) (List.length (valsO b) + Prod.fst x + Prod.snd x) (List.length (valsO b)) (valsO b)) q_16;
                          let q_22 := List.length (valsO b) + Prod.fst x;
                          let q_23 := q_10;
                          let q_24 := q_6;
                          let q_25 := q_14;
                          let q_26 := q_9;
                          let q_27 := q_13;
                          let q_28 := q_16;
                          let q_29 := q_15;
                          Bif q_17
                            (Bif (q_26 == 0)
                              (Bif (q_27 == 0)
                                (Bif (q_29 == 0)
                                  (Bif (q_28 == 0)
                                    ((WOk (SS.mk q_25 true 0 (List.length (valsO b)) q_22 (q_22 + Prod.snd x) (List.length (valsO b)) (valsO b)) ∧ WOk q_24) ∧
                                      ∀ (x_2 : Unit),
                                        let q := q_22;
                                        let q_30 := q_23;
                                        Bif (same (SS.mk q_25 true 0 (List.length (valsO b)) q (q + Prod.snd x) (List.length (valsO b)) (valsO b)) q_24) (Bif q_12 q_8 q_30) q_30)
                                    q_23)
                                  q_23)
                                q_23)
                              q_23)
                            (RqOk q ∧
                              ∀ (x_2 : Unit),
                                let q := q;
                                Bif (right q)
                                  (RqOk q ∧
                                    ∀ (x_3 : Nat × Nat),
                                      let q_30 := List.length (putL q);
                                      let q := putL q;
                                      let q_31 := 0 + q_30;
                                      let q_32 := q_19;
                                      let q_33 := q_22;
                                      Bif (decide (q_31 ≤ q_30) && (longEnough q_31 [Col.int IntKind.u8 q] && (!!right (Rq.mk q_26 q_27 q_29 (SS.mk q_25 true 0 (List.length (valsO b)) q_33 (q_33 + Prod.snd x) (List.length (valsO b)) (valsO b)) q_28) || decide (q_30 = 0)))) (Bif (decide (q_32 ≤ SS.m b) && (longEnough q_32 q_20 && q_11)) (AV.val (Value.bool (ByteArray.toList (strOfNums (List.take q_30 (List.drop 0 q))) == q_18)) = AV.val (Value.bool true)) False) False)
                                  q_23))))))) := by kernel_rfl
set_option maxHeartbeats 1000000 in
theorem back04_vc (q : Rq) (b : SS) (hq : RqOk q) (hb : BOk b) : FnV Try.prog Γ11 (fun _ _ => none) Try.f3 [rqV q 0, ssV b 1] [some (wO q.v), some (bO b)] (fun v _ => v = bv true) := by
  refine FnV.of (back04_nf _ _) ?_
  have hp := putL_len (q := q)
  have hnb := nl_or hb
  have hvo := hb.off
  have hvm := hb.m
  simp only [pS_fold, gS_fold, gQ_fold]
  have hgb : ∀ y, RqOk (gQ b y) := gQ_ok hb
  have hsb : ∀ y, WOk (gS b y) := gS_ok hb
  have hps : ∀ y, BOk (pS q y) := pS_ok q
  have hgs : ∀ y y', WOk (gS (pS q y) y') := fun y y' => gS_ok (hps y) y'
  have hnil : WOk ⟨true, true, 0, 0, 0, 0, 0, []⟩ := newOk (c := 0) (r := 0) rfl (by decide) (by decide) (by decide)
  have hqv := hq.v
  have hlen := SS.val_len hb
  have hvl : SS.val b = List.take b.n (List.drop b.off b.l) := rfl
  have hq' : RqOk ⟨q.fc, q.addr, q.qty, q.v, q.to⟩ := hq
  have e1 : right q = true → ∀ y, codeG (pS q y) = 0 := fun h y => pg_code hq h y
  have e2 : right q = true → ∀ y, okG (pS q y) = true := fun h y => okG_yes (e1 h y)
  have e3 : right q = true → ∀ y, IntKind.i64.wrap ((pS q y).get 0) = q.fc := fun h y => by have := (pg_eq hq h y (0, 0)).fc; simp only [gQ, e2 h, oz, cond_true] at this; exact this
  have e4 : right q = true → ∀ y, wordW (atH (pS q y) (hd0 (pS q y))) = q.addr := fun h y => by have := (pg_eq hq h y (0, 0)).addr; simp only [gQ, e2 h, oz, cond_true] at this; exact this
  have e5 : right q = true → ∀ y, qtyG (kG (pS q y)) (pS q y) = q.qty := fun h y => by have := (pg_eq hq h y (0, 0)).qty; simp only [gQ, e2 h, oz, cond_true] at this; exact this
  have e6 : right q = true → ∀ y, toG (kG (pS q y)) (pS q y) = q.to := fun h y => by have := (pg_eq hq h y (0, 0)).to; simp only [gQ, e2 h, oz, cond_true] at this; exact this
  have e7 : right q = true → ∀ y y', same (gS (pS q y) y') q.v = true := fun h y y' => (pg_eq hq h y y').same
  have l1 : right q = true → decide (((putL q).length : Int) > 0) = true := fun h => decide_eq_true (by have := hp.2.2 h; omega)
  have l2 : right q = false → decide (((putL q).length : Int) > 0) = false := fun h => decide_eq_false (by have := mt hp.2.1 (by rw [h]; decide); omega)
  have l3 : decide (((putL q).length : Int) > 253) = false := decide_eq_false (by omega)
  have o1 : ∀ n, oz true n = n := fun n => rfl
  have o0 : ∀ n, oz false n = 0 := fun n => rfl
  have second : ∀ x : Nat × Nat, Bif (codeG b != 0)
      (Bif (oz (okG b) (IntKind.i64.wrap (b.get 0)) == 0) (Bif (oz (okG b) (wordW (atH b (hd0 b))) == 0) (Bif (oz (okG b) (qtyG (kG b) b) == 0) (Bif (oz (okG b) (toG (kG b) b) == 0)
        ((WOk (gS b x) ∧ WOk ⟨true, true, 0, 0, 0, 0, 0, []⟩) ∧ ∀ (_ : Unit), Bif (same (gS b x) ⟨true, true, 0, 0, 0, 0, 0, []⟩) (Bif (decide (codeG b ≥ 1)) (AV.val (Value.bool (decide (codeG b ≤ 3))) = AV.val (Value.bool true)) (AV.val (Value.bool false) = AV.val (Value.bool true))) (AV.val (Value.bool false) = AV.val (Value.bool true)))
        (AV.val (Value.bool false) = AV.val (Value.bool true))) (AV.val (Value.bool false) = AV.val (Value.bool true))) (AV.val (Value.bool false) = AV.val (Value.bool true))) (AV.val (Value.bool false) = AV.val (Value.bool true)))
      (RqOk (gQ b x) ∧ ∀ (_ : Unit), Bif (right (gQ b x)) (RqOk (gQ b x) ∧ ∀ (_ : Nat × Nat),
        Bif (decide (0 + (putL (gQ b x)).length ≤ (putL (gQ b x)).length) && (longEnough (0 + (putL (gQ b x)).length) [Col.int IntKind.u8 (putL (gQ b x))] && (!!right (gQ b x) || decide ((putL (gQ b x)).length = 0))))
          (Bif (decide (b.off + b.n ≤ b.m) && (longEnough (b.off + b.n) [Col.int IntKind.u8 b.l] && (!b.nl || decide (b.n = 0))))
            (AV.val (Value.bool ((strOfNums (List.take (putL (gQ b x)).length (List.drop 0 (putL (gQ b x))))).toList == (strOfNums (List.take b.n (List.drop b.off b.l))).toList)) = AV.val (Value.bool true)) False) False)
        (AV.val (Value.bool false) = AV.val (Value.bool true))) := by
    intro x
    by_cases hc : codeG b = 0
    · have hr := gp_right hb hc x
      have hpt := gp_put hb hc x
      have hbo : (!b.nl || decide (b.n = 0)) = true := by
        rcases hnb with h | h
        · rw [h]; rfl
        · rw [h]; exact Bool.or_true _
      have htake : List.take b.val.length b.val = b.val := List.take_of_length_le (Nat.le_refl _)
      simp only [hc, hr, hpt, Nat.zero_add, List.drop_zero, htake, ← hvl, hbo, longEnough, colLen, hvm]
      simp [Bif_iff, hgb, hvo]
    · have ho := okG_no hc
      have hcc := code_cases b
      have hsn : same (gS b x) ⟨true, true, 0, 0, 0, 0, 0, []⟩ = true := same_nil (by simp [gS, valsO, ho]) rfl
      have c1 : (codeG b != 0) = true := by simpa using hc
      have c2 : decide (codeG b ≥ 1) = true := decide_eq_true (by omega)
      have c3 : decide (codeG b ≤ 3) = true := decide_eq_true (by omega)
      simp only [c1, c2, c3, ho, o0, hsn]
      simp [Bif_iff, hsb, hnil]
  refine ⟨trivial, fun _ => ?_⟩
  rw [Bif_iff]
  refine ⟨fun _ => trivial, fun _ => ?_⟩
  rw [Bif_iff]
  refine ⟨fun _ => trivial, fun _ => ⟨hq', fun x => ⟨hq', fun _ => ?_⟩⟩⟩
  cases hr : right q with
  | false =>
    simp only [l2 hr, l3]
    exact ⟨hb, second⟩
  | true =>
    simp only [l1 hr, l3, e1 hr, e2 hr, e3 hr, e4 hr, e5 hr, e6 hr, e7 hr, o1, beq_self_eq_true]
    exact ⟨hps x, fun _ => ⟨⟨hgs _ _, hqv⟩, fun _ => ⟨hb, second⟩⟩⟩
end Go.Wk.P04
