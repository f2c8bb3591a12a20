/-
  The walk of ReplyOther, and its plain law; under the rows' own bounds.
-/
import Derived.Test.YtmbeekfbnfndgaaRl
namespace Go.Wk.P05
open Go Go.Vs Go.Proofs Go.Wk.P04
set_option linter.unusedSimpArgs false
set_option linter.unusedVariables false
set_option maxRecDepth 10000

/-! what another request's bytes tell -/
theorem rpV'_first {q : Rq} {p : Rp} (hr : right q = true) (hm : may q p = true) : (rpV' q p).getD 0 0 = bif p.code != 0 then q.fc + 128 else q.fc := by
  have hl := rp_len p hr
  obtain ⟨k1, k2, k3⟩ := right_parts hr
  have hfc := kd_low k1
  have e : (rpV' q p).getD 0 0 = (rpL q p).getD 0 0 := by
    rw [rpV', List.getD_eq_getElem?_getD, List.getElem?_take, if_pos hl.1, List.getD_eq_getElem?_getD]
  rw [e]
  cases hc : p.code != 0 with
  | true =>
    simp only [rpL, hc, cond_true]
    rw [or128_low (a := q.fc % 256) (by omega)]
    show q.fc % 256 + 128 = _; omega
  | false =>
    simp only [rpL, hc, cond_false]
    cases hi : isReads q.fc with
    | true => show q.fc % 256 = _; omega
    | false =>
      have : (putL q).getD 0 0 = q.fc % 256 := by
        simp only [putL, hr, cond_true]
        unfold putB
        cases q.fc == 5 <;> cases (kdAt q.fc).most == 0 <;> cases (kdAt q.fc).to <;> cases (kdAt q.fc).all <;> cases (kdAt q.fc).bits <;> rfl
      simp only [cond_false, this]; omega
theorem other_yes {q r : Rq} {p : Rp} (hr : RqOk r) (hp : RpOk p) (hrp : rright r p = true) (hc : p.code = 0) {x : SS} (hx : BOk x) (hL : x.val = rpV' q p) (he : rpV' r p = rpV' q p) : errG r x = 0 := by
  have := rput_get hr hp hrp hx (hL.trans he.symm)
  rw [this, hc]; rfl
theorem other_no {q r : Rq} {p : Rp} (hqp : rright q p = true) (hc : p.code = 0) {x : SS} (hL : x.val = rpV' q p) (h51 : errG r x ≠ 51) :
    q.fc = r.fc ∧ errG r x = 0 ∧ (gotP r x (0, 0)).code = 0 ∧ may r (gotP r x (0, 0)) = true ∧ rpV' r (gotP r x (0, 0)) = rpV' q p := by
  obtain ⟨c1, c2, c3⟩ := rget_put h51
  have c2 : rpV' r (gotP r x (0, 0)) = rpV' q p := by rw [← hL]; exact c2
  simp only [rright, Bool.and_eq_true] at c1 hqp
  have f1 := rpV'_first c1.1 c1.2
  have f2 := rpV'_first hqp.1 hqp.2
  rw [c2, f2] at f1
  have q1 := kd_low (right_parts hqp.1).1
  have r1 := kd_low (right_parts c1.1).1
  have hc' : (p.code != 0) = false := by simpa using hc
  rw [hc'] at f1
  have hg : (gotP r x (0, 0)).code = gcode x := rfl
  cases hgc : (gotP r x (0, 0)).code != 0 with
  | true => rw [hgc] at f1; simp only [cond_true, cond_false] at f1; omega
  | false =>
    rw [hgc] at f1
    refine ⟨f1, ?_, by simpa using hgc, c1.2, c2⟩
    rw [hg] at hgc
    rw [hgc] at c3
    rcases err_cases r x with h | h | h
    · exact h
    · exact absurd h h51
    · rw [h] at c3; cases c3
theorem kd_reads {n : Int} (h : isReads n = true) : (kdAt n).most > 0 := by
  rcases kcases n with h' | h' | h' | h' | h' | h' | h' | h' | h' | h' | ⟨h1, h2, h3, h4, h5, h6, h7, h8, h9, h10⟩
  iterate 10 (subst h'; first | decide | exact absurd h (by decide))
  have e1 : kdAt n = kd0 := by simp only [kdAt, kdOf, h1, h2, h3, h4, h5, h6, h7, h8, h9, h10, if_false, Option.getD_none]
  rw [isReads, e1] at h; cases h
theorem qty_in {q : Rq} (hr : right q = true) (hi : isReads q.fc = true) : 1 ≤ q.qty ∧ q.qty ≤ 2000 := by
  have h := right_nums (right_parts hr).2.1
  have := h.2.2.2.2.2.1 (kd_reads hi)
  have := kdAt_most q.fc
  omega
theorem data_n {q : Rq} {p : Rp} : (data q p).length = bif rbits q.fc then (p.v.n + 7) / 8 else 2 * p.v.n := by
  unfold data
  cases rbits q.fc <;> simp only [cond_true, cond_false, wN_length, bN_length]
/-- Of what was read: how many. -/
theorem other_reads {q r : Rq} {p : Rp} (hr : RqOk r) (hp : RpOk p) (hqp : rright q p = true) (hrr : right r = true) (hc : p.code = 0) {x : SS} (hx : BOk x) (hL : x.val = rpV' q p) (hfc : q.fc = r.fc) (hi : isReads q.fc = true) :
    (q.qty = r.qty → errG r x = 0) ∧ (errG r x ≠ 51 → bif rbits q.fc then (q.qty + 7) / 8 = (r.qty + 7) / 8 else q.qty = r.qty) := by
  have hqp' := hqp
  simp only [rright, Bool.and_eq_true] at hqp'
  obtain ⟨q1, q2⟩ := hqp'
  have hc' : (p.code != 0) = false := by simpa using hc
  have hir : isReads r.fc = true := by rw [← hfc]; exact hi
  have m1 := rp_reads q2 hc hi
  refine ⟨fun hqty => ?_, fun h51 => ?_⟩
  · refine other_yes (q := q) hr hp ?_ hc hx hL ?_
    · simp only [rright, hrr, Bool.true_and]
      simp only [may, hc', hi, cond_false, Bool.not_true] at q2
      simp only [may, hc', hir, cond_false, Bool.not_true]
      rw [← hfc, ← hqty]; exact q2
    · simp only [rpV', rpN, rpL, hc', hi, hir, cond_false, cond_true, data, hfc]
  · obtain ⟨n1, n2, n3, n4, n5⟩ := other_no hqp hc hL h51
    have m2 := rp_reads n4 n3 hir
    have l1 := rpV'_len p q1
    have l2 := rpV'_len (gotP r x (0, 0)) hrr
    rw [n5, l1] at l2
    have n3' : ((gotP r x (0, 0)).code != 0) = false := by simpa using n3
    simp only [rpN, hc', n3', hi, hir, cond_false, cond_true, data_n, ← hfc] at l2
    have b1 := qty_in q1 hi
    have b2 := qty_in hrr hir
    cases hb : rbits q.fc with
    | true => rw [hb] at l2; simp only [cond_true] at l2 ⊢; omega
    | false => rw [hb] at l2; simp only [cond_false] at l2 ⊢; omega
theorem w1_inj {a b : Int} (ha : 0 ≤ a ∧ a ≤ 65535) (hb : 0 ≤ b ∧ b ≤ 65535) : a / 256 % 256 = b / 256 % 256 → a % 256 = b % 256 → a = b := by omega
/-- What is answered to a request that writes. -/
def wL (q : Rq) : List Int := List.take (bif isW q.fc then 5 else (putL q).length) (putL q)
theorem wL_of {q : Rq} {p : Rp} (hc : p.code = 0) (hi : isReads q.fc = false) : rpV' q p = wL q := by
  have hc' : (p.code != 0) = false := by simpa using hc
  simp only [rpV', rpN, rpL, hc', hi, cond_false, wL]
theorem same_iff {s t : SS} : same s t = true ↔ s.n = t.n ∧ ∀ j, j < s.n → s.get j = t.get j := by
  simp only [same, Bool.and_eq_true, decide_eq_true_eq, allN_iff, eqv, beq_iff_eq]; rfl
theorem wL_eq {q r : Rq} (hq : RqOk q) (hr : RqOk r) (q1 : right q = true) (r1 : right r = true) (hfc : q.fc = r.fc) (hi : isReads q.fc = false) : wL r = wL q ↔ q.addr = r.addr ∧ q.qty = r.qty ∧ (isW q.fc = true ∨ same q.v r.v = true) := by
  obtain ⟨k1, k2, k3⟩ := right_parts q1
  obtain ⟨j1, j2, j3⟩ := right_parts r1
  obtain ⟨o1, o2, o3, o4, o5, o6, o7, o8⟩ := right_nums k2
  obtain ⟨u1, u2, u3, u4, u5, u6, u7, u8⟩ := right_nums j2
  have hqv := hq.v
  have hrv := hr.v
  have hon := fun h => ones_01 (q := q) h hqv
  have hom := fun h => ones_01 (q := r) h hrv
  have e1 : putL q = putB (kdAt q.fc) q := by simp only [putL, q1, cond_true]
  have e2 : putL r = putB (kdAt r.fc) r := by simp only [putL, r1, cond_true]
  simp only [wL, e1, e2]
  clear e1 e2 q1 r1 hq hr
  obtain ⟨fc, addr, qty, v, to⟩ := q
  obtain ⟨fc2, addr2, qty2, v2, to2⟩ := r
  dsimp only at *
  subst hfc
  have gq := fun j h => hqv.at_ j h
  have gr := fun j h => hrv.at_ j h
  rcases kcases fc with h | h | h | h | h | h | h | h | h | h | ⟨h1, h2, h3, h4, h5, h6, h7, h8, h9, h10⟩
  iterate 4 (subst h; cases hi)
  · subst h
    simp [kdAt, kdOf] at o8 u8 o5 u5
    have hb1 := hon (o1 rfl) 0 (by show 0 < v.n; omega)
    have hb2 := hom (u1 rfl) 0 (by show 0 < v2.n; omega)
    have ea : putB (kdAt 5) ⟨5, addr, qty, v, to⟩ = [5, addr / 256 % 256, addr % 256, v.get 0 * 65280 / 256 % 256, v.get 0 * 65280 % 256] := rfl
    have eb : putB (kdAt 5) ⟨5, addr2, qty2, v2, to2⟩ = [5, addr2 / 256 % 256, addr2 % 256, v2.get 0 * 65280 / 256 % 256, v2.get 0 * 65280 % 256] := rfl
    have ew : isW 5 = false := rfl
    rw [ea, eb, ew, same_iff]
    simp only [cond_false, List.length_cons, List.length_nil, List.take_succ_cons, List.take_nil, List.cons.injEq, true_and, and_true, Bool.false_eq_true, false_or]
    constructor
    · rintro ⟨a1, a2, a3, a4⟩
      refine ⟨by omega, by omega, by omega, fun j hj => ?_⟩
      obtain rfl : j = 0 := by omega
      omega
    · rintro ⟨a1, a2, a3, a4⟩
      have := a4 0 (by omega)
      omega
  · subst h
    simp [kdAt, kdOf] at o8 u8 o5 u5
    have n1 : v.n = 1 := by omega
    have n2 : v2.n = 1 := by omega
    have ea : putB (kdAt 6) ⟨6, addr, qty, v, to⟩ = [6, addr / 256 % 256, addr % 256] ++ wN v.get v.n := rfl
    have eb : putB (kdAt 6) ⟨6, addr2, qty2, v2, to2⟩ = [6, addr2 / 256 % 256, addr2 % 256] ++ wN v2.get v2.n := rfl
    have ew : isW 6 = false := rfl
    have g1 := gq 0 (by omega)
    have g2 := gr 0 (by omega)
    rw [ea, eb, ew, same_iff, n1, n2]
    simp only [wN, cond_false, List.length_append, List.length_cons, List.length_nil, List.nil_append, List.cons_append, List.take_succ_cons, List.take_nil, List.cons.injEq, true_and, and_true, Bool.false_eq_true, false_or, Nat.reduceAdd]
    constructor
    · rintro ⟨a1, a2, a3, a4⟩
      refine ⟨by omega, by omega, fun j hj => ?_⟩
      obtain rfl : j = 0 := by omega
      simp only [SS.get] at *; omega
    · rintro ⟨a1, a2, a4⟩
      have := a4 0 (by omega)
      rw [this, a1]; simp
  · subst h
    have ea : List.take 5 (putB (kdAt 15) ⟨15, addr, qty, v, to⟩) = [15, addr / 256 % 256, addr % 256, qty / 256 % 256, qty % 256] := rfl
    have eb : List.take 5 (putB (kdAt 15) ⟨15, addr2, qty2, v2, to2⟩) = [15, addr2 / 256 % 256, addr2 % 256, qty2 / 256 % 256, qty2 % 256] := rfl
    have ew : isW 15 = true := rfl
    simp [kdAt, kdOf] at o6 u6
    simp only [ew, cond_true, ea, eb, List.cons.injEq, true_and, and_true, true_or]
    omega
  · subst h
    have ea : List.take 5 (putB (kdAt 16) ⟨16, addr, qty, v, to⟩) = [16, addr / 256 % 256, addr % 256, qty / 256 % 256, qty % 256] := rfl
    have eb : List.take 5 (putB (kdAt 16) ⟨16, addr2, qty2, v2, to2⟩) = [16, addr2 / 256 % 256, addr2 % 256, qty2 / 256 % 256, qty2 % 256] := rfl
    have ew : isW 16 = true := rfl
    simp [kdAt, kdOf] at o6 u6
    simp only [ew, cond_true, ea, eb, List.cons.injEq, true_and, and_true, true_or]
    omega
  · subst h
    simp [kdAt, kdOf] at o8 u8 o5 u5
    have n1 : v.n = 2 := by omega
    have n2 : v2.n = 2 := by omega
    have ea : putB (kdAt 22) ⟨22, addr, qty, v, to⟩ = [22, addr / 256 % 256, addr % 256] ++ wN v.get v.n := rfl
    have eb : putB (kdAt 22) ⟨22, addr2, qty2, v2, to2⟩ = [22, addr2 / 256 % 256, addr2 % 256] ++ wN v2.get v2.n := rfl
    have ew : isW 22 = false := rfl
    have g1 := gq 0 (by omega)
    have g2 := gr 0 (by omega)
    have g3 := gq 1 (by omega)
    have g4 := gr 1 (by omega)
    rw [ea, eb, ew, same_iff, n1, n2]
    simp only [wN, cond_false, List.length_append, List.length_cons, List.length_nil, List.nil_append, List.cons_append, List.take_succ_cons, List.take_nil, List.cons.injEq, true_and, and_true, Bool.false_eq_true, false_or, Nat.reduceAdd]
    constructor
    · rintro ⟨a1, a2, a3, a4, a5, a6⟩
      refine ⟨by omega, by omega, fun j hj => ?_⟩
      have : j = 0 ∨ j = 1 := by omega
      rcases this with rfl | rfl
      · simp only [SS.get] at *; omega
      · simp only [SS.get] at *; omega
    · rintro ⟨a1, a2, a4⟩
      rw [a4 0 (by omega), a4 1 (by omega), a1]; simp
  · subst h; cases hi
  · simp only [kdOf, h1, h2, h3, h4, h5, h6, h7, h8, h9, h10, if_false] at k1; cases k1
theorem other_writes {q r : Rq} {p : Rp} (hq : RqOk q) (hr : RqOk r) (hp : RpOk p) (hqp : rright q p = true) (hrr : right r = true) (hc : p.code = 0) {x : SS} (hx : BOk x) (hL : x.val = rpV' q p) (hfc : q.fc = r.fc) (hi : isReads q.fc = false) :
    errG r x = 0 ↔ q.addr = r.addr ∧ q.qty = r.qty ∧ (isW q.fc = true ∨ same q.v r.v = true) := by
  have hqp' := hqp
  simp only [rright, Bool.and_eq_true] at hqp'
  obtain ⟨q1, q2⟩ := hqp'
  have hir : isReads r.fc = false := by rw [← hfc]; exact hi
  have hpn := rp_none q2 hc hi
  rw [← wL_eq hq hr q1 hrr hfc hi]
  constructor
  · intro h0
    obtain ⟨n1, n2, n3, n4, n5⟩ := other_no hqp hc hL (by rw [h0]; decide)
    rw [wL_of n3 hir, wL_of hc hi] at n5; exact n5
  · intro hw
    refine other_yes (q := q) hr hp ?_ hc hx hL (by rw [wL_of hc hir, wL_of hc hi]; exact hw)
    have hc' : (p.code != 0) = false := by simpa using hc
    simp only [rright, hrr, Bool.true_and, may, hc', hir, cond_false, Bool.not_false, cond_true, hpn]; rfl
theorem beq_of_iff {a b : Bool} (h : a = true ↔ b = true) : (a == b) = true := by
  rw [Bool.eq_iff_iff.2 h]; exact beqB b
/-! ReplyOther -/
set_option maxRecDepth 100000 in
theorem rother_nf (q : Rq) (r : Rq) (p : Rp) : (fnV Try.prog Γr (fun (x : Code) (x_1 : AS) => none) Try.f4 [rqV q 0, rqV r 1, rpV p 2] [some (wO (Rq.v q)), some (wO (Rq.v r)), some (wO (Rp.v p))] fun (v : AV) (x : AHeap) => v = bv true) = (True ∧ ∀ (x : Unit), let q_1 := AV.val (Value.bool true) = AV.val (Value.bool true); let q_2 := RqOk (Rq.mk (Rq.fc q) (Rq.addr q) (Rq.qty q) (Rq.v q) (Rq.to q)); Bif (decide ((↑(SS.n (Rq.v q)) : Int) > 3000)) q_1 (Bif (decide ((↑(SS.n (Rp.v p)) : Int) > 3000)) q_1 (Bif (decide ((↑(SS.n (Rq.v r)) : Int) > 3000)) q_1 (q_2 ∧ ∀ (x : Unit), let q_3 := RqOk (Rq.mk (Rq.fc r) (Rq.addr r) (Rq.qty r) (Rq.v r) (Rq.to r)); let q_4 := q_1; Bif (!right q) q_4 (q_3 ∧ ∀ (x : Unit), let q_5 := q_4; Bif (!right r) q_5 (Bif (Rp.code p != 0) q_5 ((q_2 ∧ RpOk (Rp.mk (Rp.code p) (Rp.v p))) ∧ ∀ (x : Nat × Nat), let q_6 := errG r (SS.mk (!rright q p) true 0 (rpN' q p) (List.length (rpL' q p) + Prod.fst (roomIf (rright q p) x)) (List.length (rpL' q p) + Prod.fst (roomIf (rright q p) x) + Prod.snd (roomIf (rright q p) x)) (List.length (rpL' q p)) (rpL' q p)); let q_7 := List.length (rpL' q p) + Prod.fst (roomIf (rright q p) x); let q_8 := Prod.snd (roomIf (rright q p) x); let q_9 := q_5; Bif ((↑(rpN' q p) : Int) == 0) q_9 ((q_3 ∧ BOk (SS.mk (!rright q p) true 0 (rpN' q p) q_7 (q_7 + q_8) (List.length (rpL' q p)) (rpL' q p))) ∧ ∀ (x : Nat × Nat), let q_10 := q_6 == 0; let q_11 := AV.val (Value.bool (q_6 == 51)) = AV.val (Value.bool true); let q_12 := q_7; let q_13 := AV.val (Value.bool (q_10 == true)) = AV.val (Value.bool true); let q_14 := AV.val (Value.bool (q_10 == false)) = AV.val (Value.bool true); let q_15 := Rq.qty q == Rq.qty r; let q_16 := q_8; Bif (Rq.fc q != Rq.fc r) q_11 (True ∧ ∀ (x : Unit), let q_17 := Bif (isReads (Rq.fc q)) (AV.val (Value.bool (q_10 == q_15)) = AV.val (Value.bool true)) (Bif (Rq.addr q == Rq.addr r) (Bif q_15 (Bif (Rq.fc q == 15) q_13 (Bif (Rq.fc q == 16) q_13 ((WOk (Rq.v q) ∧ WOk (Rq.v r)) ∧ ∀ (x : Unit), let q_17 := q_12; AV.val (Value.bool ((errG r (SS.mk (!rright q p) true 0 (rpN' q p) q_17 (q_17 + q_16) (List.length (rpL' q p)) (rpL' q p)) == 0) == same (Rq.v q) (Rq.v r))) = AV.val (Value.bool true)))) q_14) q_14); let q_18 := Bif (IntKind.wrap IntKind.i64 (Int.tdiv (IntKind.wrap IntKind.i64 (Rq.qty q + 7)) 8) == IntKind.wrap IntKind.i64 (Int.tdiv (IntKind.wrap IntKind.i64 (Rq.qty r + 7)) 8)) q_9 q_11; let q_19 := q_12; Bif (isReads (Rq.fc q)) (Bif (rbits (Rq.fc q)) (Bif (Rq.qty q != Rq.qty r) q_18 (Bif (errG r (SS.mk (!rright q p) true 0 (rpN' q p) q_19 (q_19 + q_16) (List.length (rpL' q p)) (rpL' q p)) == 0) q_18 (AV.val (Value.bool false) = AV.val (Value.bool true)))) q_17) q_17))))))))) := by kernel_rfl
set_option maxHeartbeats 1000000 in
theorem rother_vc (q r : Rq) (p : Rp) (hq : RqOk q) (hr : RqOk r) (hp : RpOk p) : FnV Try.prog Γr (fun _ _ => none) Try.f4 [rqV q 0, rqV r 1, rpV p 2] [some (wO q.v), some (wO r.v), some (wO p.v)] (fun v _ => v = bv true) := by
  refine FnV.of (rother_nf _ _ _) ?_
  have hN := rpN'_le q p hp
  have hq' : RqOk ⟨q.fc, q.addr, q.qty, q.v, q.to⟩ := hq
  have hr' : RqOk ⟨r.fc, r.addr, r.qty, r.v, r.to⟩ := hr
  have hp' : RpOk ⟨p.code, p.v⟩ := hp
  simp only [rpS_fold, rgS_fold, rgP_fold]
  refine ⟨trivial, fun _ => ?_⟩
  rw [Bif_iff]
  refine ⟨fun _ => (by first | exact rfl | exact trivial), fun _ => ?_⟩
  rw [Bif_iff]
  refine ⟨fun _ => (by first | exact rfl | exact trivial), fun _ => ?_⟩
  rw [Bif_iff]
  refine ⟨fun _ => (by first | exact rfl | exact trivial), fun _ => ⟨hq', fun _ => ?_⟩⟩
  rw [Bif_iff]
  refine ⟨fun _ => (by first | exact rfl | exact trivial), fun hq1 => ⟨hr', fun _ => ?_⟩⟩
  rw [Bif_iff]
  refine ⟨fun _ => (by first | exact rfl | exact trivial), fun hr1 => ?_⟩
  rw [Bif_iff]
  refine ⟨fun _ => (by first | exact rfl | exact trivial), fun hc => ⟨⟨hq', hp'⟩, fun y => ?_⟩⟩
  rw [Bif_iff]
  refine ⟨fun _ => (by first | exact rfl | exact trivial), fun hn => ?_⟩
  have q1 : right q = true := by simpa using hq1
  have r1 : right r = true := by simpa using hr1
  have hc0 : p.code = 0 := by simpa using hc
  have hqp : rright q p = true := hN.2.1 (by
    have : ¬ (rpN' q p : Int) = 0 := by simpa using hn
    omega)
  have hx := rpS_ok q p y
  have hL := rpS_val hqp y
  refine ⟨⟨hr', hx⟩, fun _ => ?_⟩
  generalize rpS q p y = x at hx hL
  have hec := err_cases r x
  by_cases hfc : q.fc = r.fc
  · have hf : (q.fc != r.fc) = false := by simpa using hfc
    simp only [hf]
    refine ⟨trivial, fun _ => ?_⟩
    cases hi : isReads q.fc with
    | true =>
      have h := other_reads hr hp hqp r1 hc0 hx hL hfc hi
      have b1 := qty_in q1 hi
      have b2 := qty_in r1 (by rw [← hfc]; exact hi)
      have w1 : ∀ n : Int, 1 ≤ n ∧ n ≤ 2000 → IntKind.i64.wrap ((IntKind.i64.wrap (n + 7)).tdiv 8) = (n + 7) / 8 := fun n hn => by
        rw [IntWalk.i64_in (n + 7) (by omega), Int.tdiv_eq_ediv_of_nonneg (by omega), IntWalk.i64_in _ (by omega)]
      rw [w1 _ b1, w1 _ b2]
      cases hb : rbits q.fc with
      | true =>
        have h2 : errG r x ≠ 51 → (q.qty + 7) / 8 = (r.qty + 7) / 8 := fun h51 => by have := h.2 h51; rw [hb] at this; exact this
        by_cases hqq : q.qty = r.qty
        · have e := h.1 hqq
          simp [Bif_iff, hqq, e]
        · have e : errG r x = 51 ∨ (q.qty + 7) / 8 = (r.qty + 7) / 8 := by
            by_cases h51 : errG r x = 51
            · exact .inl h51
            · exact .inr (h2 h51)
          rcases e with e | e <;> simp [Bif_iff, hqq, e]
      | false =>
        have h2 : errG r x ≠ 51 → q.qty = r.qty := fun h51 => by have := h.2 h51; rw [hb] at this; exact this
        have e : ((errG r x == 0) == (q.qty == r.qty)) = true := beq_of_iff (by
          rw [beq_iff_eq, beq_iff_eq]
          exact ⟨fun h0 => h2 (by rw [h0]; decide), h.1⟩)
        simp only [e]
        first | exact rfl | exact trivial
    | false =>
      have h := other_writes hq hr hp hqp r1 hc0 hx hL hfc hi
      have hv : WOk q.v ∧ WOk r.v := ⟨hq.v, hr.v⟩
      cases hb : rbits q.fc with
      | true => rw [rbits, hi] at hb; cases hb
      | false =>
        by_cases a1 : q.addr = r.addr
        · by_cases a2 : q.qty = r.qty
          · by_cases a3 : isW q.fc = true
            · have e : errG r x = 0 := h.2 ⟨a1, a2, .inl a3⟩
              simp only [isW, Bool.or_eq_true, beq_iff_eq] at a3
              rcases a3 with a3 | a3 <;> simp [Bif_iff, a1, a2, a3, e]
            · have h1 : (q.fc == 15) = false := by simp only [isW, Bool.or_eq_true, not_or, Bool.not_eq_true] at a3; exact a3.1
              have h2 : (q.fc == 16) = false := by simp only [isW, Bool.or_eq_true, not_or, Bool.not_eq_true] at a3; exact a3.2
              have e : ((errG r x == 0) == same q.v r.v) = true := beq_of_iff (by
                rw [beq_iff_eq, h]
                exact ⟨fun hh => hh.2.2.resolve_left a3, fun hs => ⟨a1, a2, .inr hs⟩⟩)
              simp only [h1, h2, e, a1, a2, beq_self_eq_true]
              exact ⟨hv, fun _ => (by first | exact rfl | exact trivial)⟩
          · have e : (errG r x == 0) = false := by rw [beq_eq_false_iff_ne]; intro h0; exact a2 (h.1 h0).2.1
            have h2 : (q.qty == r.qty) = false := by simpa using a2
            simp only [a1, beq_self_eq_true, h2, e]
            first | exact rfl | exact trivial
        · have e : (errG r x == 0) = false := by rw [beq_eq_false_iff_ne]; intro h0; exact a1 (h.1 h0).1
          have h2 : (q.addr == r.addr) = false := by simpa using a1
          simp only [h2, e]
          first | exact rfl | exact trivial
  · have hf : (q.fc != r.fc) = true := by simpa using hfc
    have e : errG r x = 51 := by
      by_cases h : errG r x = 51
      · exact h
      · exact absurd (other_no hqp hc0 hL h).1 hfc
    simp only [hf, e]
    first | exact rfl | exact trivial
end Go.Wk.P05
