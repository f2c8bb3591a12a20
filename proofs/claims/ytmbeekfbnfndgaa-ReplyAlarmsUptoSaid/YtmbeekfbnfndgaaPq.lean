/-
  The walk of PduBack; under the rows' own bounds.
-/
import Derived.Test.YtmbeekfbnfndgaaPp
namespace Go.Wk.P04
open Go Go.Vs Go.Proofs
set_option linter.unusedSimpArgs false
set_option linter.unusedVariables false
set_option maxRecDepth 10000

/-! what Put and Get make, under names -/
def pS (q : Rq) (y : Nat × Nat) : SS := ⟨!right q, true, 0, (putL q).length, (putL q).length + (roomIf (right q) y).1, (putL q).length + (roomIf (right q) y).1 + (roomIf (right q) y).2, (putL q).length, putL q⟩
theorem pS_fold (q : Rq) (y : Nat × Nat) : SS.mk (!right q) true 0 (putL q).length ((putL q).length + (roomIf (right q) y).1) ((putL q).length + (roomIf (right q) y).1 + (roomIf (right q) y).2) (putL q).length (putL q) = pS q y := rfl
theorem putL_in (q : Rq) : ∀ v ∈ putL q, 0 ≤ v ∧ v < 256 := by
  unfold putL
  cases right q with
  | true => exact putB_in _ _
  | false => intro v hv; cases hv
theorem pS_ok (q : Rq) (y : Nat × Nat) : BOk (pS q y) :=
  newOk rfl (Nat.le_trans putL_len.1 (by omega)) (putL_in q) (fun h => by
    have : right q = false := by simpa using h
    simp [putL, this])
theorem pS_val (q : Rq) (y : Nat × Nat) : (pS q y).val = putL q := SS.val_all rfl
def gS (x : SS) (y : Nat × Nat) : SS := ⟨!okG x || nlG (kG x) x, true, 0, (valsO x).length, (valsO x).length + y.1, (valsO x).length + y.1 + y.2, (valsO x).length, valsO x⟩
theorem gS_fold (x : SS) (y : Nat × Nat) : SS.mk (!okG x || nlG (kG x) x) true 0 (valsO x).length ((valsO x).length + y.1) ((valsO x).length + y.1 + y.2) (valsO x).length (valsO x) = gS x y := rfl
def gQ (x : SS) (y : Nat × Nat) : Rq := ⟨oz (okG x) (IntKind.i64.wrap (x.get 0)), oz (okG x) (wordW (atHd x (hd0 x))), oz (okG x) (qtyG (kG x) x), gS x y, oz (okG x) (toG (kG x) x)⟩
theorem gQ_fold (x : SS) (y : Nat × Nat) : Rq.mk (oz (okG x) (IntKind.i64.wrap (x.get 0))) (oz (okG x) (wordW (atHd x (hd0 x)))) (oz (okG x) (qtyG (kG x) x)) (gS x y) (oz (okG x) (toG (kG x) x)) = gQ x y := rfl
theorem okG_yes {x : SS} (h : codeG x = 0) : okG x = true := by rw [okG, h]; rfl
theorem okG_no {x : SS} (h : ¬ codeG x = 0) : okG x = false := by rw [okG]; simpa using h
theorem gQ_yes {x : SS} (h : codeG x = 0) (y : Nat × Nat) : gQ x y = rqG (kG x) x y := by
  simp only [gQ, rqG, gS, vG, okG_yes h, oz, valsO, cond_true, Bool.not_true, Bool.false_or]
theorem gQ_no {x : SS} (h : ¬ codeG x = 0) (y : Nat × Nat) : gQ x y = ⟨0, 0, 0, ⟨true, true, 0, 0, y.1, y.1 + y.2, 0, []⟩, 0⟩ := by
  simp only [gQ, gS, okG_no h, oz, valsO, cond_false, Bool.not_false, Bool.true_or, List.length_nil, Nat.zero_add]
theorem gQ_ok {x : SS} (hx : BOk x) (y : Nat × Nat) : RqOk (gQ x y) := by
  by_cases h : codeG x = 0
  · rw [gQ_yes h]; exact rqG_ok hx (get_put hx h).1 y
  · rw [gQ_no h]
    refine rq_lit (by decide) (by decide) (by decide) (by decide) ?_
    have := newOk (B := 2000000) (n := 0) (c := y.1) (r := y.2) (lim := 65536) (nl := true) (l := []) rfl (by omega) (by simp) (fun _ => rfl)
    simpa only [Nat.zero_add] using this
theorem gS_ok {x : SS} (hx : BOk x) (y : Nat × Nat) : WOk (gS x y) := (gQ_ok hx y).v
theorem RqEq.trans {a b c : Rq} (h : RqEq a b) (g : RqEq b c) : RqEq a c := ⟨h.fc.trans g.fc, h.addr.trans g.addr, h.qty.trans g.qty, h.to.trans g.to, h.n.trans g.n, fun j hj => (h.v j hj).trans (g.v j (by rw [← h.n]; exact hj))⟩
theorem rqG_y (k : Kd) (x : SS) (y : Nat × Nat) : RqEq (rqG k x y) (rqG k x (0, 0)) := ⟨rfl, rfl, rfl, rfl, rfl, fun _ _ => rfl⟩
/-- Put, then Get. -/
theorem pg_code {q : Rq} (hq : RqOk q) (hr : right q = true) (y : Nat × Nat) : codeG (pS q y) = 0 := (put_get hq hr (pS_ok q y) (pS_val q y)).1
theorem pg_eq {q : Rq} (hq : RqOk q) (hr : right q = true) (y y' : Nat × Nat) : RqEq (gQ (pS q y) y') q := by
  obtain ⟨h1, h2⟩ := put_get hq hr (pS_ok q y) (pS_val q y)
  rw [gQ_yes h1]
  exact (rqG_y _ _ _).trans h2
theorem RqEq.same {q p : Rq} (h : RqEq q p) : same q.v p.v = true := by
  simp only [Go.Wk.P04.same, Bool.and_eq_true, decide_eq_true_eq, allN_iff, eqv, beq_iff_eq]
  exact ⟨h.n, h.v⟩
theorem RqEq.putL {q p : Rq} (h : RqEq q p) : putL q = putL p := by
  simp only [Go.Wk.P04.putL, h.right]
  cases hr : Go.Wk.P04.right p with
  | false => rfl
  | true =>
    simp only [cond_true]
    have hr' : Go.Wk.P04.right q = true := by rw [h.right]; exact hr
    rw [h.putB _ (fc_pos hr'), h.fc]
/-- Get, then Put. -/
theorem gp_right {x : SS} (hx : BOk x) (h : codeG x = 0) (y : Nat × Nat) : right (gQ x y) = true := by
  rw [gQ_yes h, (rqG_y _ _ _).right]; exact (get_put hx h).2.1
theorem gp_put {x : SS} (hx : BOk x) (h : codeG x = 0) (y : Nat × Nat) : putL (gQ x y) = x.val := by
  rw [gQ_yes h, (rqG_y _ _ _).putL]; exact (get_put hx h).2.2
theorem same_nil {s t : SS} (hs : s.n = 0) (ht : t.n = 0) : same s t = true := by simp [same, hs, ht, allN]

end Go.Wk.P04
