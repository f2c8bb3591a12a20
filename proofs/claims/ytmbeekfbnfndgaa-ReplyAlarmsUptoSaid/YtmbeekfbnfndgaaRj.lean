/-
  The plain laws of answers and their bytes; under the rows' own bounds.
-/
import Derived.Test.YtmbeekfbnfndgaaRi
namespace Go.Wk.P05
open Go Go.Vs Go.Proofs Go.Wk.P04
set_option linter.unusedSimpArgs false
set_option linter.unusedVariables false
set_option maxRecDepth 10000

/-! what answers' bytes tell: plain laws -/
theorem or128_fin : ∀ k : Fin 256, or128 (k.val : Int) = if k.val < 128 then ((k.val + 128 : Nat) : Int) else (k.val : Int) := by decide
theorem and128_fin : ∀ k : Fin 256, and128 (k.val : Int) = if k.val < 128 then 0 else 128 := by decide
theorem or128_low {a : Int} (h : 0 ≤ a ∧ a < 128) : or128 a = a + 128 := by
  obtain ⟨k, rfl⟩ := Int.eq_ofNat_of_zero_le h.1
  have := or128_fin ⟨k, by omega⟩
  rw [if_pos (show k < 128 by omega)] at this
  exact this
theorem and128_low {a : Int} (h : 0 ≤ a ∧ a < 128) : and128 a = 0 := by
  obtain ⟨k, rfl⟩ := Int.eq_ofNat_of_zero_le h.1
  have := and128_fin ⟨k, by omega⟩
  rw [if_pos (show k < 128 by omega)] at this
  exact this
theorem and128_high {a : Int} (h : 128 ≤ a ∧ a < 256) : and128 a = 128 := by
  obtain ⟨k, rfl⟩ := Int.eq_ofNat_of_zero_le (show 0 ≤ a by omega)
  have := and128_fin ⟨k, by omega⟩
  rw [if_neg (show ¬ k < 128 by omega)] at this
  exact this
theorem kd_low {n : Int} (h : (kdOf n).isSome = true) : 1 ≤ n ∧ n < 128 := by
  rcases kcases n with h | h | h | h | h | h | h | h | h | h | ⟨h1, h2, h3, h4, h5, h6, h7, h8, h9, h10⟩
  iterate 10 omega
  simp only [kdOf, h1, h2, h3, h4, h5, h6, h7, h8, h9, h10, if_false] at h
  cases h
structure RpEq (p p' : Rp) : Prop where
  code : p.code = p'.code
  n : p.v.n = p'.v.n
  v : ∀ j, j < p.v.n → p.v.get j = p'.v.get j
theorem RpEq.any {p p' : Rp} (h : RpEq p p') : anyN p.v.n (big p.v) = anyN p'.v.n (big p'.v) := by
  rw [← h.n]
  refine anyN_congr fun j hj => ?_
  simp only [big]
  have := h.v j hj
  simp only [SS.get] at this
  rw [this]
theorem RpEq.may {p p' : Rp} (h : RpEq p p') (q : Rq) : may q p = may q p' := by
  have e := h.any
  have hn := h.n
  simp only [Go.Wk.P05.may, h.code]
  rw [e, hn]
theorem RpEq.data {p p' : Rp} (h : RpEq p p') (q : Rq) : data q p = data q p' := by
  simp only [Go.Wk.P05.data]
  rw [show bN p.v.get p.v.n = bN p'.v.get p'.v.n by rw [← h.n]; exact bN_congr h.v, show wN p.v.get p.v.n = wN p'.v.get p'.v.n by rw [← h.n]; exact wN_congr h.v]
theorem RpEq.rpL {p p' : Rp} (h : RpEq p p') (q : Rq) : rpL q p = rpL q p' := by simp only [Go.Wk.P05.rpL, h.code, h.data]
theorem RpEq.rpN {p p' : Rp} (h : RpEq p p') (q : Rq) : rpN q p = rpN q p' := by simp only [Go.Wk.P05.rpN, h.code, h.data]
theorem RpEq.same {p p' : Rp} (h : RpEq p p') : same p.v p'.v = true := by
  simp only [Go.Wk.P04.same, Bool.and_eq_true, decide_eq_true_eq, allN_iff, eqv, beq_iff_eq]
  exact ⟨h.n, h.v⟩
/-- The bytes of an answer. -/
def rpV' (q : Rq) (p : Rp) : List Int := List.take (rpN q p) (rpL q p)
theorem RpEq.rpV' {p p' : Rp} (h : RpEq p p') (q : Rq) : rpV' q p = rpV' q p' := by simp only [Go.Wk.P05.rpV', h.rpL, h.rpN]
theorem rpV'_len {q : Rq} (p : Rp) (hr : right q = true) : (rpV' q p).length = rpN q p := by
  have := (rp_len p hr).2
  simp only [rpV', List.length_take]; omega
theorem hd2_get {x : SS} (hx : BOk x) (hn : 2 < x.n) (j : Nat) : (atHd x (hd2 x)).get j = x.get (2 + j) := by
  have := hx.cap
  simp only [SS.get, atHd, hd2, cutOff]
  rw [if_neg (by show ¬ x.cap = 2; omega)]
  congr 1; show x.off + 2 + j = _; omega
theorem rp_code {q : Rq} {p : Rp} (hm : may q p = true) (hc : p.code ≠ 0) : 1 ≤ p.code ∧ p.code ≤ 4 ∧ p.v.n = 0 := by
  have : (p.code != 0) = true := by simpa using hc
  simp only [may, this, cond_true, Bool.and_eq_true, decide_eq_true_eq, beq_iff_eq] at hm
  omega
theorem rp_none {q : Rq} {p : Rp} (hm : may q p = true) (hc : p.code = 0) (hi : isReads q.fc = false) : p.v.n = 0 := by
  have : (p.code != 0) = false := by simpa using hc
  simp only [may, this, hi, cond_false, cond_true, Bool.not_false, beq_iff_eq] at hm
  omega
theorem rp_reads {q : Rq} {p : Rp} (hm : may q p = true) (hc : p.code = 0) (hi : isReads q.fc = true) : (p.v.n : Int) = q.qty ∧ (rbits q.fc = true → anyN p.v.n (big p.v) = false) := by
  have : (p.code != 0) = false := by simpa using hc
  simp only [may, this, hi, cond_false, Bool.not_true, Bool.and_eq_true, beq_iff_eq, Bool.not_eq_true', Bool.and_eq_false_iff] at hm
  refine ⟨hm.1, fun h => ?_⟩
  rcases hm.2 with h2 | h2
  · rw [h] at h2; cases h2
  · exact h2
/-- An answer is got of its bytes as it was. -/
theorem rgot {q : Rq} {p : Rp} (hq : RqOk q) (hp : RpOk p) (hr : rright q p = true) {x : SS} (hx : BOk x) (hL : x.val = rpV' q p) (y : Nat × Nat) : RpEq (gotP q x y) p := by
  have hr' := hr
  simp only [rright, Bool.and_eq_true] at hr'
  obtain ⟨r1, r2⟩ := hr'
  obtain ⟨k1, k2, k3⟩ := right_parts r1
  have hfc := kd_low k1
  obtain ⟨hn, hg⟩ := val_get hx hL
  rw [rpV'_len p r1] at hn hg
  have hl := rp_len p r1
  have hget : ∀ j, j < rpN q p → x.get j = (rpL q p).getD j 0 := fun j hj => by
    rw [hg j hj, rpV', List.getD_eq_getElem?_getD, List.getElem?_take, if_pos hj, List.getD_eq_getElem?_getD]
  have hmod : q.fc % 256 = q.fc := by omega
  by_cases hc : p.code = 0
  · have hc' : (p.code != 0) = false := by simpa using hc
    cases hi : isReads q.fc with
    | false =>
      have hpn := rp_none r2 hc hi
      have eN : rpN q p = bif isW q.fc then 5 else (putL q).length := by simp only [rpN, hc', hi, cond_false]
      have h5 : 5 ≤ x.n := by
        rw [hn, eN]
        cases hw : isW q.fc with
        | true => simp
        | false =>
          simp only [cond_false, putL, r1, cond_true]
          obtain ⟨fc, addr, qty, v, to⟩ := q
          have rn := right_nums k2
          dsimp only at *
          rcases kcases fc with h | h | h | h | h | h | h | h | h | h | ⟨h1, h2, h3, h4, h5, h6, h7, h8, h9, h10⟩
          iterate 4 (subst h; cases hi)
          · subst h; simp [putB, kdAt, kdOf, w1_length]
          · subst h
            have := rn.2.2.2.2.2.2.2 rfl
            simp [kdAt, kdOf] at this
            simp [putB, kdAt, kdOf, w1_length, wN_length]; omega
          · subst h; cases hw
          · subst h; cases hw
          · subst h
            have := rn.2.2.2.2.2.2.2 rfl
            simp [kdAt, kdOf] at this
            simp [putB, kdAt, kdOf, w1_length, wN_length]; omega
          · subst h; cases hi
          · simp only [kdOf, h1, h2, h3, h4, h5, h6, h7, h8, h9, h10, if_false] at k1; cases k1
      have ex : isEx x = false := by
        simp only [isEx, Bool.and_eq_false_iff, beq_eq_false_iff_ne]; left; omega
      have gn : gnone q x = true := by simp only [gnone, hi, Bool.not_false, Bool.true_or, Bool.or_true]
      have gv : gvals q x = [] := by simp only [gvals, gn, cond_true]
      refine ⟨?_, ?_, fun j hj => ?_⟩
      · show gcode x = _; simp only [gcode, ex, cond_false, hc]
      · show (gvals q x).length = _; rw [gv, hpn]; rfl
      · have hj : j < (gvals q x).length := hj
        rw [gv] at hj; cases hj
    | true =>
      obtain ⟨m1, m2⟩ := rp_reads r2 hc hi
      have eN : rpN q p = 2 + (data q p).length := by simp only [rpN, hc', hi, cond_false, cond_true]
      have eL : rpL q p = [q.fc % 256, ((data q p).length : Int) % 256] ++ data q p := by simp only [rpL, hc', hi, cond_false, cond_true]
      have g0 : x.get 0 = q.fc := by rw [hget 0 (by omega), eL]; exact hmod
      have ex : isEx x = false := by
        simp only [isEx, g0, and128_low ⟨by omega, hfc.2⟩, Bool.and_eq_false_iff]; right; decide
      have h2n : ¬ (x.n : Int) < 2 := by omega
      have gn : gnone q x = false := by simp only [gnone, ex, hi, decide_eq_false h2n, Bool.not_true, Bool.or_false]
      have rn := right_nums k2
      have hq1 : 1 ≤ q.qty ∧ q.qty ≤ 2000 := by
        have hk := kdAt_most q.fc
        by_cases h0 : (kdAt q.fc).most = 0
        · exfalso
          obtain ⟨fc, addr, qty, v, to⟩ := q
          dsimp only at *
          rcases kcases fc with h | h | h | h | h | h | h | h | h | h | ⟨h1, h2, h3, h4, h5, h6, h7, h8, h9, h10⟩
          iterate 4 (subst h; simp [kdAt, kdOf] at h0)
          iterate 5 (subst h; cases hi)
          · subst h; simp [kdAt, kdOf] at h0
          · simp only [kdOf, h1, h2, h3, h4, h5, h6, h7, h8, h9, h10, if_false] at k1; cases k1
        · have := rn.2.2.2.2.2.1 (by omega); omega
      have hpos : 0 < (data q p).length := by
        unfold data
        cases rbits q.fc <;> simp only [cond_true, cond_false, wN_length, bN_length] <;> omega
      have hdat : ∀ j, j < (data q p).length → (atHd x (hd2 x)).get j = (data q p).getD j 0 := fun j hj => by
        rw [hd2_get hx (by omega), hget _ (by omega), eL]
        exact getD_app_right (l := [q.fc % 256, ((data q p).length : Int) % 256])
      have hat := hd2_ok hx h2n
      have han : (atHd x (hd2 x)).n = (data q p).length := by show x.n - 2 = _; omega
      have gv : gvals q x = tab p.v.n p.v.get := by
        simp only [gvals, gn, cond_false]
        cases hb : rbits q.fc with
        | true =>
          have ed : data q p = bN p.v.get p.v.n := by simp only [data, hb, cond_true]
          simp only [cond_true, ← m1]
          refine ub_of (by rw [han, ed, bN_length]) (fun j hj => ?_) (by omega) (fun j hj => ?_)
          · rw [hdat j (by rw [ed, bN_length]; exact hj), ed]
          · have h1 := anyN_not.1 (m2 hb) j hj
            simp only [big, decide_eq_false_iff_not] at h1
            have h2 := hp.v.at_ j hj
            simp only [SS.get]; omega
        | false =>
          have ed : data q p = wN p.v.get p.v.n := by simp only [data, hb, cond_false]
          simp only [cond_false, uwT]
          have hm : (atHd x (hd2 x)).n / 2 = p.v.n := by rw [han, ed, wN_length]; omega
          rw [hm]
          refine tab_congr fun j hj => ?_
          have := wN_get p.v.get p.v.n j hj
          have hv := hp.v.at_ j hj
          simp only [wd]
          rw [hdat _ (by rw [ed, wN_length]; omega), hdat _ (by rw [ed, wN_length]; omega), ed, this.1, this.2]
          simp only [SS.get]; omega
      refine ⟨?_, ?_, fun j hj => ?_⟩
      · show gcode x = _; simp only [gcode, ex, cond_false, hc]
      · show (gvals q x).length = _; rw [gv, tab_length]
      · have hj : j < (gvals q x).length := hj
        show (gvals q x).getD (0 + j) 0 = _
        rw [gv, tab_length] at hj
        rw [gv, Nat.zero_add, tab_getD _ _ hj]
  · have hc' : (p.code != 0) = true := by simpa using hc
    obtain ⟨c1, c2, c3⟩ := rp_code r2 hc
    have eN : rpN q p = 2 := by simp only [rpN, hc', cond_true]
    have eL : rpL q p = [or128 (q.fc % 256), p.code % 256] := by simp only [rpL, hc', cond_true]
    have g0 : x.get 0 = q.fc + 128 := by rw [hget 0 (by omega), eL, hmod]; exact or128_low ⟨by omega, hfc.2⟩
    have g1 : x.get 1 = p.code := by rw [hget 1 (by omega), eL]; show p.code % 256 = _; omega
    have ex : isEx x = true := by
      have : x.n = 2 := by omega
      have h128 : and128 (q.fc + 128) = 128 := and128_high ⟨by omega, by omega⟩
      simp only [isEx, g0, h128, this]; rfl
    have gn : gnone q x = true := by simp only [gnone, ex, Bool.true_or]
    have gv : gvals q x = [] := by simp only [gvals, gn, cond_true]
    refine ⟨?_, ?_, fun j hj => ?_⟩
    · show gcode x = _; simp only [gcode, ex, cond_true, g1]; exact IntWalk.i64_in _ (by omega)
    · show (gvals q x).length = _; rw [gv, c3]; rfl
    · have hj : j < (gvals q x).length := hj
      rw [gv] at hj; cases hj
/-- What may be answered is got of its bytes, without fault. -/
theorem rput_get {q : Rq} {p : Rp} (hq : RqOk q) (hp : RpOk p) (hr : rright q p = true) {x : SS} (hx : BOk x) (hL : x.val = rpV' q p) : errG q x = bif p.code != 0 then 52 else 0 := by
  have he := rgot hq hp hr hx hL (0, 0)
  simp only [rright, Bool.and_eq_true] at hr
  have e1 : may q (gotP q x (0, 0)) = true := by rw [he.may]; exact hr.2
  have e2 : rpB q x = x.val := by rw [hL]; exact he.rpV' q
  have e3 : gcode x = p.code := he.code
  simp only [errG, hr.1, e1, e2, e3, Bool.not_true, cond_false, decide_true]
theorem err_cases (q : Rq) (x : SS) : errG q x = 0 ∨ errG q x = 51 ∨ errG q x = 52 := by
  unfold errG
  cases right q
  · exact .inr (.inl rfl)
  cases may q (gotP q x (0, 0))
  · exact .inr (.inl rfl)
  cases decide (rpB q x = x.val)
  · exact .inr (.inl rfl)
  cases gcode x != 0
  · exact .inl rfl
  · exact .inr (.inr rfl)
/-- What is got without fault may be answered, and has its bytes. -/
theorem rget_put {q : Rq} {x : SS} (h : errG q x ≠ 51) : rright q (gotP q x (0, 0)) = true ∧ rpB q x = x.val ∧ (errG q x == 52) = (gcode x != 0) := by
  unfold errG at h
  cases h1 : right q with
  | false => rw [h1] at h; exact absurd rfl h
  | true =>
  cases h2 : may q (gotP q x (0, 0)) with
  | false => rw [h1, h2] at h; exact absurd rfl h
  | true =>
  by_cases h3 : rpB q x = x.val
  · refine ⟨by simp only [rright, h1, h2, Bool.and_self], h3, ?_⟩
    simp only [errG, h1, h2, decide_eq_true h3, Bool.not_true, cond_false]
    cases gcode x != 0 <;> rfl
  · rw [h1, h2, decide_eq_false h3] at h; exact absurd rfl h
/-! what Put and Get make, under names -/
def rpS (q : Rq) (p : Rp) (y : Nat × Nat) : SS := ⟨!rright q p, true, 0, rpN' q p, (rpL' q p).length + (roomIf (rright q p) y).1, (rpL' q p).length + (roomIf (rright q p) y).1 + (roomIf (rright q p) y).2, (rpL' q p).length, rpL' q p⟩
theorem rpS_fold (q : Rq) (p : Rp) (y : Nat × Nat) : SS.mk (!rright q p) true 0 (rpN' q p) ((rpL' q p).length + (roomIf (rright q p) y).1) ((rpL' q p).length + (roomIf (rright q p) y).1 + (roomIf (rright q p) y).2) (rpL' q p).length (rpL' q p) = rpS q p y := rfl
theorem rpS_ok (q : Rq) (p : Rp) (y : Nat × Nat) : BOk (rpS q p y) := by
  cases hr : rright q p with
  | false =>
    have e1 : rpN' q p = 0 := by simp only [rpN', hr, cond_false]
    have e2 : rpL' q p = [] := by simp only [rpL', hr, cond_false]
    refine newOk2 rfl (by rw [e1]; omega) (by rw [e1]; omega) (by rw [e2]; simp) (fun _ => e1)
  | true =>
    have hr' := hr
    simp only [rright, Bool.and_eq_true] at hr'
    have e1 : rpN' q p = rpN q p := by simp only [rpN', hr, cond_true]
    have e2 : rpL' q p = rpL q p := by simp only [rpL', hr, cond_true]
    have h1 := rp_len p hr'.1
    have h2 := rpL_len hr'.1 hr'.2
    exact newOk2 rfl (by rw [e1, e2]; exact h1.2) (by rw [e1]; omega) (by rw [e2]; exact rpL_in q p) (fun h => by rw [hr] at h; cases h)
theorem rpS_val {q : Rq} {p : Rp} (hr : rright q p = true) (y : Nat × Nat) : (rpS q p y).val = rpV' q p := by
  have e1 : rpN' q p = rpN q p := by simp only [rpN', hr, cond_true]
  have e2 : rpL' q p = rpL q p := by simp only [rpL', hr, cond_true]
  simp only [SS.val, rpS, e1, e2, List.drop_zero]; rfl
def rgS (q : Rq) (x : SS) (y : Nat × Nat) : SS := ⟨!eok q x || gnl q x, true, 0, (gvalsO q x).length, (gvalsO q x).length + y.1, (gvalsO q x).length + y.1 + y.2, (gvalsO q x).length, gvalsO q x⟩
theorem rgS_fold (q : Rq) (x : SS) (y : Nat × Nat) : SS.mk (!eok q x || gnl q x) true 0 (gvalsO q x).length ((gvalsO q x).length + y.1) ((gvalsO q x).length + y.1 + y.2) (gvalsO q x).length (gvalsO q x) = rgS q x y := rfl
def rgP (q : Rq) (x : SS) (y : Nat × Nat) : Rp := ⟨oz (eok q x) (gcode x), rgS q x y⟩
theorem rgP_fold (q : Rq) (x : SS) (y : Nat × Nat) : Rp.mk (oz (eok q x) (gcode x)) (rgS q x y) = rgP q x y := rfl
theorem eok_yes {q : Rq} {x : SS} (h : errG q x ≠ 51) : eok q x = true := by simpa [eok] using h
theorem eok_no {q : Rq} {x : SS} (h : errG q x = 51) : eok q x = false := by rw [eok, h]; rfl
theorem rgP_yes {q : Rq} {x : SS} (h : errG q x ≠ 51) (y : Nat × Nat) : rgP q x y = gotP q x y := by
  simp only [rgP, rgS, gotP, eok_yes h, oz, gvalsO, cond_true, Bool.not_true, Bool.false_or]
theorem rgP_no {q : Rq} {x : SS} (h : errG q x = 51) (y : Nat × Nat) : rgP q x y = ⟨0, ⟨true, true, 0, 0, y.1, y.1 + y.2, 0, []⟩⟩ := by
  simp only [rgP, rgS, eok_no h, oz, gvalsO, cond_false, Bool.not_false, Bool.true_or, List.length_nil, Nat.zero_add]
theorem rgP_ok (q : Rq) {x : SS} (hx : BOk x) (y : Nat × Nat) : RpOk (rgP q x y) := by
  by_cases h : errG q x = 51
  · rw [rgP_no h]
    refine rp_lit (by decide) ?_
    have := newOk (B := 2000000) (n := 0) (c := y.1) (r := y.2) (lim := 65536) (nl := true) (l := []) rfl (by omega) (by simp) (fun _ => rfl)
    simpa only [Nat.zero_add] using this
  · rw [rgP_yes h]; exact gotP_ok q hx y
theorem rgS_ok (q : Rq) {x : SS} (hx : BOk x) (y : Nat × Nat) : WOk (rgS q x y) := (rgP_ok q hx y).v
theorem gotP_y (q : Rq) (x : SS) (y : Nat × Nat) : RpEq (gotP q x y) (gotP q x (0, 0)) := ⟨rfl, rfl, fun _ _ => rfl⟩
theorem rpN'_le (q : Rq) (p : Rp) (hp : RpOk p) : rpN' q p ≤ 253 ∧ (0 < rpN' q p ↔ rright q p = true) := by
  cases hr : rright q p with
  | false => simp [rpN', hr]
  | true =>
    have hr' := hr
    simp only [rright, Bool.and_eq_true] at hr'
    obtain ⟨r1, r2⟩ := hr'
    have h1 := rp_len p r1
    simp only [rpN', hr, cond_true, iff_true]
    refine ⟨?_, h1.1⟩
    unfold rpN
    cases hc : p.code != 0 with
    | true => simp
    | false =>
      simp only [cond_false]
      cases hi : isReads q.fc with
      | false =>
        have := (putL_len (q := q)).1
        cases isW q.fc <;> simp only [cond_true, cond_false] <;> omega
      | true =>
        have hm := rp_reads r2 (by simpa using hc) hi
        obtain ⟨k1, k2, k3⟩ := right_parts r1
        have rn := right_nums k2
        simp only [cond_true]
        unfold data
        obtain ⟨fc, addr, qty, v, to⟩ := q
        dsimp only at *
        rcases kcases fc with h | h | h | h | h | h | h | h | h | h | ⟨h1, h2, h3, h4, h5, h6, h7, h8, h9, h10⟩
        iterate 2
          · subst h
            have := rn.2.2.2.2.2.1 (by decide)
            simp [kdAt, kdOf] at this
            have e : rbits 1 = true := rfl
            have e' : rbits 2 = true := rfl
            simp only [e, e', cond_true, bN_length]; omega
        iterate 2
          · subst h
            have := rn.2.2.2.2.2.1 (by decide)
            simp [kdAt, kdOf] at this
            have e : rbits 3 = false := rfl
            have e' : rbits 4 = false := rfl
            simp only [e, e', cond_false, wN_length]; omega
        iterate 5 (subst h; cases hi)
        · subst h
          have := rn.2.2.2.2.2.1 (by decide)
          simp [kdAt, kdOf] at this
          have e : rbits 23 = false := rfl
          simp only [e, cond_false, wN_length]; omega
        · simp only [kdOf, h1, h2, h3, h4, h5, h6, h7, h8, h9, h10, if_false] at k1; cases k1
end Go.Wk.P05
