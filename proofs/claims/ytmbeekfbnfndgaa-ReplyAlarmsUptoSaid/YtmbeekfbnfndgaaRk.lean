/-
  The walks of ReplyBack and ReplySizes; under the rows' own bounds.
-/
import Derived.Test.YtmbeekfbnfndgaaRj
namespace Go.Wk.P05
open Go Go.Vs Go.Proofs Go.Wk.P04
set_option linter.unusedSimpArgs false
set_option linter.unusedVariables false
set_option maxRecDepth 10000

/-! ReplyBack -/
theorem rpV'_in (q : Rq) (p : Rp) : ∀ v ∈ rpV' q p, 0 ≤ v ∧ v < 256 := fun v hv => rpL_in q p v (List.mem_of_mem_take hv)
theorem beqB (a : Bool) : (a == a) = true := by cases a <;> rfl
set_option maxRecDepth 100000 in
theorem rback_nf (q : Rq) (p : Rp) (b : SS) : (fnV Try.prog Γp (fun (x : Code) (x_1 : AS) => none) Try.f3 [rqV q 0, rpV p 1, ssV b 2] [some (wO (Rq.v q)), some (wO (Rp.v p)), some (bO b)] fun (v : AV) (x : AHeap) => v = bv true) = (True ∧ ∀ (x : Unit), let q_1 := AV.val (Value.bool true) = AV.val (Value.bool true); let q_2 := RqOk (Rq.mk (Rq.fc q) (Rq.addr q) (Rq.qty q) (Rq.v q) (Rq.to q)); Bif (decide ((↑(SS.n (Rq.v q)) : Int) > 3000)) q_1 (Bif (decide ((↑(SS.n (Rp.v p)) : Int) > 3000)) q_1 (Bif (decide ((↑(SS.n b) : Int) > 3000)) q_1 ((q_2 ∧ RpOk (Rp.mk (Rp.code p) (Rp.v p))) ∧ ∀ (x : Nat × Nat), let q_3 := List.length (rpL' q p) + Prod.fst (roomIf (rright q p) x); let q_4 := q_2; (q_4 ∧ RpOk (Rp.mk (Rp.code p) (Rp.v p))) ∧ ∀ (x_1 : Unit), let q_5 := SS.mk (!rright q p) true 0 (rpN' q p) q_3 (q_3 + Prod.snd (roomIf (rright q p) x)) (List.length (rpL' q p)) (rpL' q p); let q_6 := AV.val (Value.bool ((errG q b == 52) == (oz (eok q b) (gcode b) != 0))) = AV.val (Value.bool true); let q_7 := q_4; let q_8 := SS.mk true true 0 0 0 0 0 []; let q_9 := decide ((↑(rpN' q p) : Int) > 0); let q_10 := AV.val (Value.bool false) = AV.val (Value.bool true); let q_11 := !SS.nl b || decide (SS.n b = 0); let q_12 := oz (eok q b) (gcode b) == 0; let q_13 := !eok q b || gnl q b; let q_14 := errG q b == 51; let q_15 := ByteArray.toList (strOfNums (List.take (SS.n b) (List.drop (SS.off b) (SS.l b)))); let q_16 := SS.off b + SS.n b; let q_17 := [Col.int IntKind.u8 (SS.l b)]; Bif (!q_9 == rright q p) q_10 (Bif (decide ((↑(rpN' q p) : Int) > 253)) q_10 (Bif q_9 ((q_7 ∧ BOk q_5) ∧ ∀ (x : Nat × Nat), let q_18 := q_5; let q_19 := List.length (gvalsO q q_18) + Prod.fst x; let q_20 := q_10; let q_21 := q_7; let q_22 := q_13; Bif (oz (eok q q_18) (gcode q_18) == Rp.code p) ((WOk (SS.mk (!eok q q_18 || gnl q q_18) true 0 (List.length (gvalsO q q_18)) q_19 (q_19 + Prod.snd x) (List.length (gvalsO q q_18)) (gvalsO q q_18)) ∧ WOk (Rp.v p)) ∧ ∀ (x_2 : Unit), let q_23 := (q_21 ∧ BOk b) ∧ ∀ (x : Nat × Nat), let q_23 := Rp.mk (oz (eok q b) (gcode b)) (SS.mk q_22 true 0 (List.length (gvalsO q b)) (List.length (gvalsO q b) + Prod.fst x) (List.length (gvalsO q b) + Prod.fst x + Prod.snd x) (List.length (gvalsO q b)) (gvalsO q b)); let q_24 := List.length (gvalsO q b) + Prod.fst x; let q_25 := q_8; let q_26 := q_22; let q_27 := q_21; let q_28 := q_20; Bif q_14 (Bif q_12 ((WOk (SS.mk q_26 true 0 (List.length (gvalsO q b)) q_24 (q_24 + Prod.snd x) (List.length (gvalsO q b)) (gvalsO q b)) ∧ WOk q_25) ∧ ∀ (x_3 : Unit), let q_29 := q_24; AV.val (Value.bool (same (SS.mk q_26 true 0 (List.length (gvalsO q b)) q_29 (q_29 + Prod.snd x) (List.length (gvalsO q b)) (gvalsO q b)) q_25)) = AV.val (Value.bool true)) q_28) ((q_27 ∧ RpOk q_23) ∧ ∀ (x_3 : Unit), let q_29 := q_23; let q_30 := q_28; Bif (rright q q_29) ((q_27 ∧ RpOk q_29) ∧ ∀ (x_4 : Nat × Nat), let q_31 := rpN' q q_29; let q_32 := rpL' q q_29; let q_33 := 0 + q_31; let q_34 := q_16; let q_35 := q_24; Bif (decide (q_33 ≤ List.length q_32) && (longEnough q_33 [Col.int IntKind.u8 q_32] && (!!rright q (Rp.mk (oz (eok q b) (gcode b)) (SS.mk q_26 true 0 (List.length (gvalsO q b)) q_35 (q_35 + Prod.snd x) (List.length (gvalsO q b)) (gvalsO q b))) || decide (q_31 = 0)))) (Bif (decide (q_34 ≤ SS.m b) && (longEnough q_34 q_17 && q_11)) (Bif (ByteArray.toList (strOfNums (List.take q_31 (List.drop 0 q_32))) == q_15) q_6 q_30) False) False) q_30); let q_24 := q_18; let q_25 := List.length (gvalsO q q_24) + Prod.fst x; let q_26 := q_20; Bif (!same (SS.mk (!eok q q_24 || gnl q q_24) true 0 (List.length (gvalsO q q_24)) q_25 (q_25 + Prod.snd x) (List.length (gvalsO q q_24)) (gvalsO q q_24)) (Rp.v p)) q_26 (Bif (!(errG q q_24 == 0) == (Rp.code p == 0)) q_26 (Bif (errG q q_24 != 0) (Bif (errG q q_24 != 52) q_26 q_23) q_23))) q_20) ((q_7 ∧ BOk b) ∧ ∀ (x : Nat × Nat), let q_18 := Rp.mk (oz (eok q b) (gcode b)) (SS.mk q_13 true 0 (List.length (gvalsO q b)) (List.length (gvalsO q b) + Prod.fst x) (List.length (gvalsO q b) + Prod.fst x + Prod.snd x) (List.length (gvalsO q b)) (gvalsO q b)); let q_19 := List.length (gvalsO q b) + Prod.fst x; let q_20 := q_8; let q_21 := q_13; let q_22 := q_7; let q_23 := q_10; Bif q_14 (Bif q_12 ((WOk (SS.mk q_21 true 0 (List.length (gvalsO q b)) q_19 (q_19 + Prod.snd x) (List.length (gvalsO q b)) (gvalsO q b)) ∧ WOk q_20) ∧ ∀ (x_2 : Unit), let q_24 := q_19; AV.val (Value.bool (same (SS.mk q_21 true 0 (List.length (gvalsO q b)) q_24 (q_24 + Prod.snd x) (List.length (gvalsO q b)) (gvalsO q b)) q_20)) = AV.val (Value.bool true)) q_23) ((q_22 ∧ RpOk q_18) ∧ ∀ (x_2 : Unit), let q_24 := q_18; let q_25 := q_23; Bif (rright q q_24) ((q_22 ∧ RpOk q_24) ∧ ∀ (x_3 : Nat × Nat), let q_26 := rpN' q q_24; let q_27 := rpL' q q_24; let q_28 := 0 + q_26; let q_29 := q_16; let q_30 := q_19; Bif (decide (q_28 ≤ List.length q_27) && (longEnough q_28 [Col.int IntKind.u8 q_27] && (!!rright q (Rp.mk (oz (eok q b) (gcode b)) (SS.mk q_21 true 0 (List.length (gvalsO q b)) q_30 (q_30 + Prod.snd x) (List.length (gvalsO q b)) (gvalsO q b))) || decide (q_26 = 0)))) (Bif (decide (q_29 ≤ SS.m b) && (longEnough q_29 q_17 && q_11)) (Bif (ByteArray.toList (strOfNums (List.take q_26 (List.drop 0 q_27))) == q_15) q_6 q_25) False) False) q_25)))))))) := by kernel_rfl
set_option maxHeartbeats 1000000 in
theorem rback_vc (q : Rq) (p : Rp) (b : SS) (hq : RqOk q) (hp : RpOk p) (hb : BOk b) : FnV Try.prog Γp (fun _ _ => none) Try.f3 [rqV q 0, rpV p 1, ssV b 2] [some (wO q.v), some (wO p.v), some (bO b)] (fun v _ => v = bv true) := by
  refine FnV.of (rback_nf _ _ _) ?_
  have hN := rpN'_le q p hp
  have hvo := hb.off
  have hvm := hb.m
  have hvl : SS.val b = List.take b.n (List.drop b.off b.l) := rfl
  simp only [rpS_fold, rgS_fold, rgP_fold]
  have hq' : RqOk ⟨q.fc, q.addr, q.qty, q.v, q.to⟩ := hq
  have hp' : RpOk ⟨p.code, p.v⟩ := hp
  have hnil : WOk ⟨true, true, 0, 0, 0, 0, 0, []⟩ := newOk (c := 0) (r := 0) rfl (by decide) (by decide) (by decide)
  have hgb : ∀ y, RpOk (rgP q b y) := rgP_ok q hb
  have hsb : ∀ y, WOk (rgS q b y) := rgS_ok q hb
  have hbo : (!b.nl || decide (b.n = 0)) = true := by
    rcases nl_or hb with h | h
    · rw [h]; rfl
    · rw [h]; exact Bool.or_true _
  have o1 : ∀ n, oz true n = n := fun n => rfl
  have o0 : ∀ n, oz false n = 0 := fun n => rfl
  have second : ∀ x : Nat × Nat, Bif (errG q b == 51)
      (Bif (oz (eok q b) (gcode b) == 0) ((WOk (rgS q b x) ∧ WOk ⟨true, true, 0, 0, 0, 0, 0, []⟩) ∧ ∀ (_ : Unit), AV.val (Value.bool (same (rgS q b x) ⟨true, true, 0, 0, 0, 0, 0, []⟩)) = AV.val (Value.bool true)) (AV.val (Value.bool false) = AV.val (Value.bool true)))
      ((RqOk ⟨q.fc, q.addr, q.qty, q.v, q.to⟩ ∧ RpOk (rgP q b x)) ∧ ∀ (_ : Unit), Bif (rright q (rgP q b x)) ((RqOk ⟨q.fc, q.addr, q.qty, q.v, q.to⟩ ∧ RpOk (rgP q b x)) ∧ ∀ (_ : Nat × Nat),
        Bif (decide (0 + rpN' q (rgP q b x) ≤ (rpL' q (rgP q b x)).length) && (longEnough (0 + rpN' q (rgP q b x)) [Col.int IntKind.u8 (rpL' q (rgP q b x))] && (!!rright q (rgP q b x) || decide (rpN' q (rgP q b x) = 0))))
          (Bif (decide (b.off + b.n ≤ b.m) && (longEnough (b.off + b.n) [Col.int IntKind.u8 b.l] && (!b.nl || decide (b.n = 0))))
            (Bif ((strOfNums (List.take (rpN' q (rgP q b x)) (List.drop 0 (rpL' q (rgP q b x))))).toList == (strOfNums (List.take b.n (List.drop b.off b.l))).toList)
              (AV.val (Value.bool ((errG q b == 52) == (oz (eok q b) (gcode b) != 0))) = AV.val (Value.bool true)) (AV.val (Value.bool false) = AV.val (Value.bool true))) False) False)
        (AV.val (Value.bool false) = AV.val (Value.bool true))) := by
    intro x
    by_cases hc : errG q b = 51
    · have ho := eok_no hc
      have hsn : same (rgS q b x) ⟨true, true, 0, 0, 0, 0, 0, []⟩ = true := same_nil (by simp [rgS, gvalsO, ho]) rfl
      simp only [hc, ho, o0, hsn]
      exact ⟨⟨hsb x, hnil⟩, fun _ => (by first | exact rfl | exact trivial)⟩
    · obtain ⟨c1, c2, c3⟩ := rget_put hc
      have ho := eok_yes hc
      have he : rgP q b x = gotP q b x := rgP_yes hc x
      have hy := gotP_y q b x
      have hr : rright q (rgP q b x) = true := by
        rw [he]; simp only [rright, hy.may] at c1 ⊢; exact c1
      have hr1 : right q = true := by simp only [rright, Bool.and_eq_true] at c1; exact c1.1
      have eN : rpN' q (rgP q b x) = rpN q (gotP q b (0, 0)) := by simp only [rpN', hr, cond_true]; rw [he, hy.rpN]
      have eL : rpL' q (rgP q b x) = rpL q (gotP q b (0, 0)) := by simp only [rpL', hr, cond_true]; rw [he, hy.rpL]
      have hl := (rp_len (gotP q b (0, 0)) hr1).2
      have hs : List.take (rpN q (gotP q b (0, 0))) (rpL q (gotP q b (0, 0))) = b.val := c2
      have h51 : (errG q b == 51) = false := by simpa using hc
      simp only [h51, hr, eN, eL, ho, o1, c3, Nat.zero_add, List.drop_zero, hs, ← hvl, hbo, longEnough, colLen, decide_eq_true hl, beqB, beq_self_eq_true]
      simp [Bif_iff, hgb, hvo, hvm, hq']
  refine ⟨trivial, fun _ => ?_⟩
  rw [Bif_iff]
  refine ⟨fun _ => trivial, fun _ => ?_⟩
  rw [Bif_iff]
  refine ⟨fun _ => trivial, fun _ => ?_⟩
  rw [Bif_iff]
  refine ⟨fun _ => trivial, fun _ => ⟨⟨hq', hp'⟩, fun y => ⟨⟨hq', hp'⟩, fun _ => ?_⟩⟩⟩
  have n3 : decide ((rpN' q p : Int) > 253) = false := decide_eq_false (by omega)
  cases hr : rright q p with
  | false =>
    have n1 : decide ((rpN' q p : Int) > 0) = false := decide_eq_false (by have := mt hN.2.1 (by rw [hr]; decide); omega)
    simp only [n1, n3]
    exact ⟨⟨hq', hb⟩, second⟩
  | true =>
    have n1 : decide ((rpN' q p : Int) > 0) = true := decide_eq_true (by have := hN.2.2 hr; omega)
    have hs := rpS_ok q p y
    have hsv := rpS_val hr y
    have e0 := rput_get hq hp hr hs hsv
    have e1 : gcode (rpS q p y) = p.code := (rgot hq hp hr hs hsv (0, 0)).code
    have e51 : errG q (rpS q p y) ≠ 51 := by rw [e0]; cases p.code != 0 <;> decide
    have e2 := eok_yes e51
    have e3 : ∀ y', same (rgS q (rpS q p y) y') p.v = true := fun y' => by
      have := (rgot hq hp hr hs hsv y').same
      rw [← rgP_yes e51 y'] at this; exact this
    have e4 : ∀ y', WOk (rgS q (rpS q p y) y') := fun y' => rgS_ok q hs y'
    simp only [n1, n3, e1, e2, e3, o1, e0, beq_self_eq_true]
    refine ⟨⟨hq', hs⟩, fun y' => ⟨⟨e4 y', hp.v⟩, fun _ => ?_⟩⟩
    by_cases hc : p.code = 0
    · rw [hc]; exact ⟨⟨hq', hb⟩, second⟩
    · have h1 : (p.code != 0) = true := by simpa using hc
      have h2 : (p.code == 0) = false := by simpa using hc
      simp only [h1, h2]
      exact ⟨⟨hq', hb⟩, second⟩
/-! ReplySizes -/
set_option maxRecDepth 100000 in
theorem rsizes_nf (q : Rq) (p : Rp) : (fnV Try.prog Γp (fun (x : Code) (x_1 : AS) => none) Try.f6 [rqV q 0, rpV p 1] [some (wO (Rq.v q)), some (wO (Rp.v p))] fun (v : AV) (x : AHeap) => v = bv true) = (True ∧ ∀ (x : Unit), let q_1 := decide (0 < List.length (rpL' q p)); let q_2 := IntKind.wrap IntKind.i64 (List.getD (rpL' q p) (0 + Int.toNat 0) 0); let q_3 := RqOk (Rq.mk (Rq.fc q) (Rq.addr q) (Rq.qty q) (Rq.v q) (Rq.to q)) ∧ RpOk (Rp.mk (Rp.code p) (Rp.v p)); let q_4 := inR 0 (rpN' q p); let q_5 := AV.val (Value.bool true) = AV.val (Value.bool true); Bif (decide ((↑(SS.n (Rq.v q)) : Int) > 3000)) q_5 (Bif (decide ((↑(SS.n (Rp.v p)) : Int) > 3000)) q_5 (q_3 ∧ ∀ (x : Nat × Nat), let q_6 := Bif (!!rright q p && (q_4 && q_1)) (Bif q_1 (AV.val (Value.bool (q_2 == Rq.fc q)) = AV.val (Value.bool true)) False) False; let q_7 := q_1; let q_8 := AV.val (Value.bool false) = AV.val (Value.bool true); let q_9 := q_2; let q_10 := decide (1 < List.length (rpL' q p)); let q_11 := q_4; Bif ((↑(rpN' q p) : Int) == 0) (q_3 ∧ ∀ (x : Unit), AV.val (Value.bool !rright q p) = AV.val (Value.bool true)) (Bif (Rp.code p != 0) (Bif ((↑(rpN' q p) : Int) == 2) (Bif (!!rright q p && (q_11 && q_7)) (Bif q_7 (Bif (q_9 == IntKind.wrap IntKind.i64 (Rq.fc q + 128)) (Bif (!!rright q p && (inR 1 (rpN' q p) && q_10)) (Bif q_10 (AV.val (Value.bool (IntKind.wrap IntKind.i64 (List.getD (rpL' q p) (0 + Int.toNat 1) 0) == Rp.code p)) = AV.val (Value.bool true)) False) False) q_8) False) False) q_8) (True ∧ ∀ (x : Unit), let q_12 := Bif (isReads (Rq.fc q)) (Bif ((↑(rpN' q p) : Int) == IntKind.wrap IntKind.i64 (2 + IntKind.wrap IntKind.i64 (2 * Rq.qty q))) q_6 q_8) (Bif (Rq.fc q == 22) (Bif ((↑(rpN' q p) : Int) == 7) q_6 q_8) (Bif ((↑(rpN' q p) : Int) == 5) q_6 q_8)); let q_13 := q_7; Bif (isReads (Rq.fc q)) (Bif (rbits (Rq.fc q)) (Bif ((↑(rpN' q p) : Int) == IntKind.wrap IntKind.i64 (2 + IntKind.wrap IntKind.i64 (Int.tdiv (IntKind.wrap IntKind.i64 (Rq.qty q + 7)) 8))) (Bif (!!rright q p && (q_11 && q_13)) (Bif q_13 (AV.val (Value.bool (q_9 == Rq.fc q)) = AV.val (Value.bool true)) False) False) q_8) q_12) q_12))))) := by kernel_rfl
set_option maxHeartbeats 1000000 in
theorem rsizes_vc (q : Rq) (p : Rp) (hq : RqOk q) (hp : RpOk p) : FnV Try.prog Γp (fun _ _ => none) Try.f6 [rqV q 0, rpV p 1] [some (wO q.v), some (wO p.v)] (fun v _ => v = bv true) := by
  refine FnV.of (rsizes_nf _ _) ?_
  have hN := rpN'_le q p hp
  have hq' : RqOk ⟨q.fc, q.addr, q.qty, q.v, q.to⟩ := hq
  have hp' : RpOk ⟨p.code, p.v⟩ := hp
  refine ⟨trivial, fun _ => ?_⟩
  rw [Bif_iff]
  refine ⟨fun _ => (by first | exact rfl | exact trivial), fun _ => ?_⟩
  rw [Bif_iff]
  refine ⟨fun _ => (by first | exact rfl | exact trivial), fun _ => ⟨⟨hq', hp'⟩, fun y => ?_⟩⟩
  cases hr : rright q p with
  | false =>
    have e1 : rpN' q p = 0 := by simp only [rpN', hr, cond_false]
    rw [e1]; exact ⟨⟨hq', hp'⟩, fun _ => (by first | exact rfl | exact trivial)⟩
  | true =>
  have hpos := hN.2.2 hr
  have hr' := hr
  simp only [rright, Bool.and_eq_true] at hr'
  obtain ⟨r1, r2⟩ := hr'
  obtain ⟨k1, k2, k3⟩ := right_parts r1
  have hfc := kd_low k1
  have eN : rpN' q p = rpN q p := by simp only [rpN', hr, cond_true]
  have eL : rpL' q p = rpL q p := by simp only [rpL', hr, cond_true]
  have hl := rp_len p r1
  rw [eN] at hpos
  rw [eN, eL]
  have b1 : ((rpN q p : Int) == 0) = false := by simp; omega
  have b2 : decide (0 < (rpL q p).length) = true := decide_eq_true (by omega)
  have b3 : inR 0 (rpN q p) = true := by simp only [inR, Bool.and_eq_true, decide_eq_true_eq]; omega
  by_cases hc : p.code = 0
  · have hc' : (p.code != 0) = false := by simpa using hc
    have rn := right_nums k2
    have g0 : (rpL q p).getD (0 + Int.toNat 0) 0 = q.fc := by
      show (rpL q p).getD 0 0 = _
      simp only [rpL, hc', cond_false]
      cases hi : isReads q.fc with
      | true => show q.fc % 256 = _; omega
      | false =>
        have : (putL q).getD 0 0 = q.fc % 256 := by
          simp only [putL, r1, cond_true]
          unfold putB
          cases q.fc == 5 <;> cases (kdAt q.fc).most == 0 <;> cases (kdAt q.fc).to <;> cases (kdAt q.fc).all <;> cases (kdAt q.fc).bits <;> rfl
        simp only [cond_false, this]; omega
    have g1 : IntKind.i64.wrap q.fc = q.fc := IntWalk.i64_in _ (by omega)
    simp only [b1, hc', b2, b3, g0, g1, beq_self_eq_true, Bool.not_true, Bool.not_false, Bool.true_and]
    refine ⟨trivial, fun _ => ?_⟩
    cases hi : isReads q.fc with
    | true =>
      have hm := rp_reads r2 hc hi
      have hpn := hp.v.n
      have w1 : IntKind.i64.wrap (2 + IntKind.i64.wrap ((IntKind.i64.wrap (q.qty + 7)).tdiv 8)) = ((2 + (p.v.n + 7) / 8 : Nat) : Int) := by
        rw [IntWalk.i64_in (q.qty + 7) (by omega), Int.tdiv_eq_ediv_of_nonneg (by omega), IntWalk.i64_in ((q.qty + 7) / 8) (by omega), IntWalk.i64_in _ (by omega)]; omega
      have w2 : IntKind.i64.wrap (2 + IntKind.i64.wrap (2 * q.qty)) = ((2 + 2 * p.v.n : Nat) : Int) := by
        rw [IntWalk.i64_in (2 * q.qty) (by omega), IntWalk.i64_in _ (by omega)]; omega
      have en : rpN q p = 2 + (data q p).length := by simp only [rpN, hc', hi, cond_false, cond_true]
      simp only [w1, w2, en, data]
      cases hb : rbits q.fc with
      | true => simp only [cond_true, bN_length, beq_self_eq_true]; (first | exact rfl | exact trivial)
      | false => simp only [cond_false, wN_length, beq_self_eq_true]; (first | exact rfl | exact trivial)
    | false =>
      have en : rpN q p = bif isW q.fc then 5 else (putL q).length := by simp only [rpN, hc', hi, cond_false]
      rw [en]
      simp only [putL, r1, cond_true]
      obtain ⟨fc, addr, qty, v, to⟩ := q
      dsimp only at *
      rcases kcases fc with h | h | h | h | h | h | h | h | h | h | ⟨h1, h2, h3, h4, h5, h6, h7, h8, h9, h10⟩
      iterate 4 (subst h; cases hi)
      · subst h; (first | exact rfl | exact trivial)
      · subst h
        have := rn.2.2.2.2.2.2.2 rfl
        simp [kdAt, kdOf] at this
        have e : (putB (kdAt 6) ⟨6, addr, qty, v, to⟩).length = 5 := by simp [putB, kdAt, kdOf, w1_length, wN_length]; omega
        rw [e]; (first | exact rfl | exact trivial)
      · subst h; (first | exact rfl | exact trivial)
      · subst h; (first | exact rfl | exact trivial)
      · subst h
        have := rn.2.2.2.2.2.2.2 rfl
        simp [kdAt, kdOf] at this
        have e : (putB (kdAt 22) ⟨22, addr, qty, v, to⟩).length = 7 := by simp [putB, kdAt, kdOf, w1_length, wN_length]; omega
        rw [e]; (first | exact rfl | exact trivial)
      · subst h; cases hi
      · simp only [kdOf, h1, h2, h3, h4, h5, h6, h7, h8, h9, h10, if_false] at k1; cases k1
  · have hc' : (p.code != 0) = true := by simpa using hc
    obtain ⟨c1, c2, c3⟩ := rp_code r2 hc
    have en : rpN q p = 2 := by simp only [rpN, hc', cond_true]
    have el : rpL q p = [q.fc + 128, p.code] := by
      simp only [rpL, hc', cond_true]
      rw [or128_low (a := q.fc % 256) (by omega)]
      congr 1
      · omega
      · congr 1; omega
    have w1 : IntKind.i64.wrap (q.fc + 128) = q.fc + 128 := IntWalk.i64_in _ (by omega)
    have w2 : IntKind.i64.wrap p.code = p.code := IntWalk.i64_in _ (by omega)
    have g0 : ([q.fc + 128, p.code] : List Int).getD (0 + Int.toNat 0) 0 = q.fc + 128 := rfl
    have g1 : ([q.fc + 128, p.code] : List Int).getD (0 + Int.toNat 1) 0 = p.code := rfl
    simp only [en, el, hc', g0, g1, w1, w2, beq_self_eq_true]
    (first | exact rfl | exact trivial)
end Go.Wk.P05
