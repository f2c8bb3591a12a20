/-
  The plain laws of requests and their bytes; under the rows' own bounds.
-/
import Derived.Test.YtmbeekfbnfndgaaPo
namespace Go.Wk.P04
open Go Go.Vs Go.Proofs
set_option linter.unusedSimpArgs false
set_option linter.unusedVariables false
set_option maxRecDepth 10000

/-! what bytes tell: plain laws -/
theorem val_get {x : SS} (hx : BOk x) {L : List Int} (h : x.val = L) : x.n = L.length ∧ ∀ j, j < L.length → x.get j = L.getD j 0 := by
  subst h
  have := SS.val_len hx
  exact ⟨this.symm, fun j hj => by rw [SS.val_getD (by omega)]; rfl⟩
def hdI (x : SS) (i : Nat) : H4 := advH (tl x) i
theorem tl_get {x : SS} (hx : BOk x) (hn : 1 < x.n) (j : Nat) : (tl x).get j = x.get (1 + j) := by
  have := hx.cap
  simp only [SS.get, tl, cutOff]
  rw [if_neg (by omega)]; congr 1; omega
theorem hdI_n {x : SS} (hx : BOk x) (hn : 0 < x.n) {i : Nat} (hi : 1 + 2 * i ≤ x.n) : (hdI x i).n = x.n - 1 - 2 * i := (advW_at (tl_ok hx hn) i (by show 2 * i ≤ x.n - 1; omega)).1
theorem hdI_get {x : SS} (hx : BOk x) {i : Nat} (hi : 1 + 2 * i < x.n) (j : Nat) : (atHd x (hdI x i)).get j = x.get (1 + 2 * i + j) := by
  have h := (advW_at (tl_ok hx (by omega)) i (by show 2 * i ≤ x.n - 1; omega)).2 (by show 2 * i < x.n - 1; omega) j
  have e : (atHd x (hdI x i)).get j = (advW (tl x) i).get j := rfl
  rw [e, h, tl_get hx (by omega)]; congr 1; omega
theorem byte_in {x : SS} (hx : BOk x) {j : Nat} (hj : j < x.n) : 0 ≤ x.get j ∧ x.get j < 256 := hx.at_ j hj
theorem hdI_word {x : SS} (hx : BOk x) {i : Nat} (hi : 2 + 2 * i < x.n) : wordW (atHd x (hdI x i)) = x.get (1 + 2 * i) * 256 + x.get (2 + 2 * i) := by
  have hn : (atHd x (hdI x i)).n = x.n - 1 - 2 * i := hdI_n hx (by omega) (by omega)
  have hs : shortW (atHd x (hdI x i)) = false := decide_eq_false (by omega)
  simp only [wordW, hs, cond_false]
  rw [hdI_get hx (by omega), hdI_get hx (by omega), wor_of (byte_in hx (by omega)) (byte_in hx (by omega))]
  congr 2; omega
theorem rest_n (x : SS) (h : H4) : (atHd x (restH h)).n = h.n - 1 := by
  show (restH h).n = _
  rw [restH_n]; omega
theorem rest_get {x : SS} {h : H4} (hc : h.n ≤ h.cap) (hn : 1 < h.n) (j : Nat) : (atHd x (restH h)).get j = (atHd x h).get (1 + j) := by
  simp only [SS.get, atHd, restH_off, cutOff]
  rw [show min h.n 1 = 1 by omega, if_neg (by omega)]; congr 1; omega
theorem hdI_ok {x : SS} (hx : BOk x) (hn : 0 < x.n) (i : Nat) : BOk (atHd x (hdI x i)) := advW_ok (tl_ok hx hn) i
theorem uw_of {y : SS} {m : Nat} {f : Nat → Int} (hy : BOk y) (hn : y.n / 2 = m) (hg : ∀ j, j < m → y.get (2 * j) = f j / 256 % 256 ∧ y.get (2 * j + 1) = f j % 256) (hf : ∀ j, j < m → 0 ≤ f j ∧ f j < 65536) : uw y = tab m f := by
  have h : ∀ k, k ≤ m → uwN y.get k = tab k f := by
    intro k
    induction k with
    | zero => intro _; rfl
    | succ k ih =>
      intro hk
      rw [uwN, ih (by omega), tab_succ]
      congr 2
      obtain ⟨g1, g2⟩ := hg k (by omega)
      have := hf k (by omega)
      rw [wor_of (byte_in hy (by omega)) (byte_in hy (by omega)), g1, g2, wrap_u16]; omega
  rw [uw, hn]; exact h m (Nat.le_refl _)
theorem getD_app_left {l r : List Int} {j : Nat} (h : j < l.length) : (l ++ r).getD j 0 = l.getD j 0 := by
  rw [List.getD_eq_getElem?_getD, List.getD_eq_getElem?_getD, List.getElem?_append_left h]
theorem getD_app_right {l r : List Int} {j : Nat} : (l ++ r).getD (l.length + j) 0 = r.getD j 0 := by
  rw [List.getD_eq_getElem?_getD, List.getD_eq_getElem?_getD, List.getElem?_append_right (by omega), Nat.add_sub_cancel_left]
theorem wN_get (f : Nat → Int) (m : Nat) : ∀ j, j < m → (wN f m).getD (2 * j) 0 = f j / 256 % 256 ∧ (wN f m).getD (2 * j + 1) 0 = f j % 256 := by
  induction m with
  | zero => intro j hj; omega
  | succ m ih =>
    intro j hj
    have hl := wN_length f m
    simp only [wN]
    by_cases h : j < m
    · rw [getD_app_left (by omega), getD_app_left (by omega)]; exact ih j h
    · obtain rfl : j = m := by omega
      rw [show 2 * j = (wN f j).length + 0 by omega, show (wN f j).length + 0 + 1 = (wN f j).length + 1 by omega, getD_app_right, getD_app_right]
      exact ⟨rfl, rfl⟩
theorem ub_of {y : SS} {n : Nat} {f : Nat → Int} (hn : y.n = (n + 7) / 8) (hg : ∀ j, j < (n + 7) / 8 → y.get j = (bN f n).getD j 0) (h16 : n ≤ 65536) (hf : ∀ j, j < n → f j = 0 ∨ f j = 1) : ub y n = tab n f := by
  have u1 : lenU (n : Int) = n := by rw [lenU_of (by omega) (by omega)]; omega
  have t1 : topU y (n : Int) = n := by rw [topU_of (by omega) (by omega)]; omega
  rw [ub, u1, t1, uL, mix_all]
  refine tab_congr fun j hj => ?_
  rw [hg _ (by omega), bN_ubit hj]
  rcases hf j hj with h | h <;> rw [h] <;> rfl

/-! requests that are alike -/
structure RqEq (q p : Rq) : Prop where
  fc : q.fc = p.fc
  addr : q.addr = p.addr
  qty : q.qty = p.qty
  to : q.to = p.to
  n : q.v.n = p.v.n
  v : ∀ j, j < q.v.n → q.v.get j = p.v.get j
theorem anyN_congr {n : Nat} {p q : Nat → Bool} (h : ∀ j, j < n → p j = q j) : anyN n p = anyN n q := by
  rw [Bool.eq_iff_iff, anyN_iff, anyN_iff]
  exact ⟨fun ⟨i, hi, hp⟩ => ⟨i, hi, h i hi ▸ hp⟩, fun ⟨i, hi, hp⟩ => ⟨i, hi, (h i hi).symm ▸ hp⟩⟩
theorem wN_congr {f g : Nat → Int} : ∀ {n : Nat}, (∀ j, j < n → f j = g j) → wN f n = wN g n
  | 0, _ => rfl
  | n + 1, h => by rw [wN, wN, wN_congr (fun j hj => h j (by omega)), h n (by omega)]
theorem bN_congr {f g : Nat → Int} : ∀ {n : Nat}, (∀ j, j < n → f j = g j) → bN f n = bN g n
  | 0, _ => rfl
  | n + 1, h => by rw [bN, bN, bN_congr (fun j hj => h j (by omega)), h n (by omega)]
theorem RqEq.ones {q p : Rq} (h : RqEq q p) : ones q = ones p := by
  have e := h.n
  simp only [Go.Wk.P04.ones]
  rw [← e]
  congr 1
  refine anyN_congr fun j hj => ?_
  simp only [big]
  have := h.v j hj
  simp only [SS.get] at this
  rw [this]
theorem RqEq.shaped {q p : Rq} (h : RqEq q p) (k : Kd) : shaped k q = shaped k p := by
  simp only [Go.Wk.P04.shaped, h.ones, h.qty, h.n, h.addr, h.to]
theorem RqEq.ends {q p : Rq} (h : RqEq q p) (k : Kd) : ends k q = ends k p := by
  simp only [Go.Wk.P04.ends, h.qty, h.n, h.addr, h.to]
theorem RqEq.right {q p : Rq} (h : RqEq q p) : right q = right p := by
  simp only [Go.Wk.P04.right, h.fc, h.shaped, h.ends]
theorem RqEq.putB {q p : Rq} (h : RqEq q p) (k : Kd) (h5 : q.fc = 5 → 0 < q.v.n) : putB k q = putB k p := by
  have e := h.n
  have w : wN q.v.get p.v.n = wN p.v.get p.v.n := by rw [← e]; exact wN_congr h.v
  have b : bN q.v.get p.v.n = bN p.v.get p.v.n := by rw [← e]; exact bN_congr h.v
  simp only [Go.Wk.P04.putB, h.fc, h.qty, h.n, h.addr, h.to, w, b]
  cases hc : p.fc == 5 with
  | false => rfl
  | true => rw [h.v 0 (h5 (by rw [h.fc]; exact eq_of_beq hc))]
theorem got_of {k : Kd} {x : SS} {y : Nat × Nat} {q : Rq} (h0 : kG x = k) (hfc : IntKind.i64.wrap (x.get 0) = q.fc) (ha : wordW (atHd x (hdI x 0)) = q.addr) (hq : qtyG k x = q.qty) (ht : toG k x = q.to) (hv : valsG k x = tab q.v.n q.v.get) : RqEq (rqG (kG x) x y) q := by
  rw [h0]
  refine ⟨hfc, ha, hq, ht, ?_, fun j hj => ?_⟩
  · show (valsG k x).length = _; rw [hv, tab_length]
  · have hj : j < (valsG k x).length := hj
    show (valsG k x).getD (0 + j) 0 = _
    rw [hv, tab_length] at hj
    rw [hv, Nat.zero_add, tab_getD _ _ hj]
theorem w1_word {a : Int} (h : 0 ≤ a ∧ a ≤ 65535) : a / 256 % 256 * 256 + a % 256 = a := by omega
structure Tail (x : SS) (P T : List Int) : Prop where
  n : x.n = P.length + T.length
  p : ∀ j, j < P.length → x.get j = P.getD j 0
  t : ∀ j, j < T.length → x.get (P.length + j) = T.getD j 0
theorem tail_of {x : SS} (hx : BOk x) {P T : List Int} (h : x.val = P ++ T) : Tail x P T := by
  obtain ⟨h1, h2⟩ := val_get hx h
  rw [List.length_append] at h1 h2
  exact ⟨h1, fun j hj => by rw [h2 j (by omega), getD_app_left hj], fun j hj => by rw [h2 _ (by omega), getD_app_right]⟩
theorem uw_tail {x : SS} (hx : BOk x) {P : List Int} {f : Nat → Int} {m i : Nat} (h : Tail x P (wN f m)) (hi : P.length = 1 + 2 * i) (hf : ∀ j, j < m → 0 ≤ f j ∧ f j < 65536) : uw (atHd x (hdI x i)) = tab m f := by
  have h1 := h.n
  rw [wN_length] at h1
  have hn : (atHd x (hdI x i)).n = x.n - 1 - 2 * i := hdI_n hx (by omega) (by omega)
  refine uw_of (hdI_ok hx (by omega) i) (by omega) (fun j hj => ?_) hf
  rw [hdI_get hx (by omega), hdI_get hx (by omega), ← hi, h.t _ (by rw [wN_length]; omega), h.t _ (by rw [wN_length]; omega)]
  exact wN_get f m j hj
theorem uw_rest {x : SS} (hx : BOk x) {P : List Int} {f : Nat → Int} {m i : Nat} (h : Tail x P (wN f m)) (hi : P.length = 2 + 2 * i) (hf : ∀ j, j < m → 0 ≤ f j ∧ f j < 65536) : uw (atHd x (restH (hdI x i))) = tab m f := by
  have h1 := h.n
  rw [wN_length] at h1
  have hn : (hdI x i).n = x.n - 1 - 2 * i := hdI_n hx (by omega) (by omega)
  have hc : (hdI x i).n ≤ (hdI x i).cap := (hdI_ok hx (by omega) i).cap
  have hr := rest_n x (hdI x i)
  refine uw_of (rest_ok' (hdI_ok hx (by omega) i)) (by omega) (fun j hj => ?_) hf
  rw [rest_get hc (by omega), rest_get hc (by omega), hdI_get hx (by omega), hdI_get hx (by omega), show 1 + 2 * i + (1 + 2 * j) = P.length + 2 * j by omega, show 1 + 2 * i + (1 + (2 * j + 1)) = P.length + (2 * j + 1) by omega,
    h.t _ (by rw [wN_length]; omega), h.t _ (by rw [wN_length]; omega)]
  exact wN_get f m j hj
theorem ub_rest {x : SS} (hx : BOk x) {P : List Int} {f : Nat → Int} {m i : Nat} (h : Tail x P (bN f m)) (hi : P.length = 2 + 2 * i) (h16 : m ≤ 65536) (hf : ∀ j, j < m → f j = 0 ∨ f j = 1) : ub (atHd x (restH (hdI x i))) m = tab m f := by
  have h1 := h.n
  rw [bN_length] at h1
  have hn : (hdI x i).n = x.n - 1 - 2 * i := hdI_n hx (by omega) (by omega)
  have hc : (hdI x i).n ≤ (hdI x i).cap := (hdI_ok hx (by omega) i).cap
  have hr := rest_n x (hdI x i)
  refine ub_of (by omega) (fun j hj => ?_) h16 hf
  rw [rest_get hc (by omega), hdI_get hx (by omega), show 1 + 2 * i + (1 + j) = P.length + j by omega, h.t _ (by rw [bN_length]; omega)]
theorem word_tail {x : SS} (hx : BOk x) {P T : List Int} {i : Nat} (h : Tail x P T) (hi : 2 + 2 * i < P.length) {a : Int} (h1 : P.getD (1 + 2 * i) 0 = a / 256 % 256) (h2 : P.getD (2 + 2 * i) 0 = a % 256) (ha : 0 ≤ a ∧ a ≤ 65535) : wordW (atHd x (hdI x i)) = a := by
  have hn := h.n
  rw [hdI_word hx (by omega), h.p _ (by omega), h.p _ (by omega), h1, h2]; exact w1_word ha
theorem ones_01 {q : Rq} (h : ones q = true) (hv : WOk q.v) : ∀ j, j < q.v.n → q.v.get j = 0 ∨ q.v.get j = 1 := by
  intro j hj
  simp only [ones, Bool.not_eq_true', anyN_not] at h
  have h1 := h j hj
  simp only [big, decide_eq_false_iff_not] at h1
  have h2 := hv.at_ j hj
  simp only [SS.get]
  omega
theorem tab_nil {n : Nat} {f : Nat → Int} (h : n = 0) : tab n f = [] := by subst h; rfl
theorem right_nums {k : Kd} {q : Rq} (hs : shaped k q = true) : (k.bits = true → ones q = true) ∧ (0 ≤ q.addr ∧ q.addr ≤ 65535) ∧ (0 ≤ q.to ∧ q.to ≤ 65535) ∧ (k.to = false → q.to = 0) ∧ (k.most = 0 → q.qty = 0) ∧ (k.most > 0 → 1 ≤ q.qty ∧ q.qty ≤ k.most) ∧ (k.all = true → (q.v.n : Int) = q.qty) ∧ (k.all = false → k.least ≤ q.v.n ∧ (q.v.n : Int) ≤ k.more) := by
  simp only [shaped, Bool.and_eq_true, Bool.or_eq_true, decide_eq_true_eq, beq_iff_eq, Bool.not_eq_true'] at hs
  obtain ⟨h1, h2, ⟨h3, h4⟩, h5, h6, h7⟩ := hs
  refine ⟨fun h => ?_, h5, h6, fun h => ?_, fun h => by omega, fun h => by omega, fun h => ?_, fun h => ?_⟩
  · rcases h1 with h1 | h1
    · rw [h] at h1; cases h1
    · exact h1
  · rcases h7 with h7 | h7
    · rw [h] at h7; cases h7
    · exact h7
  · rw [h] at h3 h4; simp only [cond_true] at h3 h4; omega
  · rw [h] at h3 h4; simp only [cond_false] at h3 h4; omega
theorem kG_of {x : SS} {n : Int} (h : x.get 0 = n) (hn : 0 ≤ n ∧ n < 256) : kG x = kdAt n ∧ IntKind.i64.wrap (x.get 0) = n := by
  have e : IntKind.i64.wrap (x.get 0) = n := by rw [h]; exact IntWalk.i64_in _ (by omega)
  exact ⟨by rw [kG, e], e⟩
/-- A request is got of its bytes as it was. -/
theorem got {q : Rq} (hq : RqOk q) (hr : right q = true) {x : SS} (hx : BOk x) (hL : x.val = putB (kdAt q.fc) q) (y : Nat × Nat) : kG x = kdAt q.fc ∧ RqEq (rqG (kG x) x y) q := by
  obtain ⟨fc, addr, qty, v, to⟩ := q
  simp only [right, Bool.and_eq_true] at hr
  obtain ⟨hs, hsh, _⟩ := hr
  obtain ⟨o1, o2, o3, o4, o5, o6, o7, o8⟩ := right_nums hsh
  have hv := hq.v
  have hvn : ∀ j, j < v.n → 0 ≤ v.get j ∧ v.get j < 65536 := hv.at_
  have h01 := fun h => ones_01 (q := ⟨fc, addr, qty, v, to⟩) h hv
  dsimp only at o2 o3 o4 o5 o6 o7 o8 hL hs h01 ⊢
  have main : ∀ {P T : List Int}, putB (kdAt fc) ⟨fc, addr, qty, v, to⟩ = P ++ T → P.getD 0 0 = fc % 256 → 0 ≤ fc ∧ fc < 256 → 3 ≤ P.length → P.getD 1 0 = addr / 256 % 256 → P.getD 2 0 = addr % 256 → (Tail x P T → qtyG (kdAt fc) x = qty ∧ toG (kdAt fc) x = to ∧ valsG (kdAt fc) x = tab v.n v.get) →
      kG x = kdAt fc ∧ RqEq (rqG (kG x) x y) ⟨fc, addr, qty, v, to⟩ := by
    intro P T hP h0 hfc hl h1 h2 hrest
    have ht := tail_of hx (hL.trans hP)
    have g0 : x.get 0 = fc := by rw [ht.p 0 (by omega), h0]; omega
    obtain ⟨k1, k2⟩ := kG_of g0 hfc
    obtain ⟨r1, r2, r3⟩ := hrest ht
    exact ⟨k1, got_of k1 k2 (word_tail hx ht (by omega) h1 h2 o2) r1 r2 r3⟩
  rcases kcases fc with h | h | h | h | h | h | h | h | h | h | ⟨h1, h2, h3, h4, h5, h6, h7, h8, h9, h10⟩
  iterate 4
    · subst h
      have n0 : v.n = 0 := by have := o8 rfl; simp [kdAt, kdOf] at this; omega
      have t0 := o4 rfl
      have hq1 := o6 (by decide)
      refine main (P := [_] ++ w1 addr ++ w1 qty) (T := []) (List.append_nil _).symm rfl (by decide) (Nat.le_of_ble_eq_true rfl) rfl rfl fun ht => ⟨?_, t0.symm, (tab_nil n0).symm⟩
      exact word_tail hx ht (i := 1) (Nat.lt_of_lt_of_le (by decide : 2 + 2 * 1 < 5) (Nat.le_refl 5)) rfl rfl (by simp [kdAt, kdOf] at hq1; omega)
  · subst h
    have n1 : v.n = 1 := by have := o8 rfl; simp [kdAt, kdOf] at this; omega
    have t0 := o4 rfl
    have hb := h01 (o1 rfl) 0 (by show 0 < v.n; omega)
    refine main (P := [_] ++ w1 addr) (T := wN (fun _ => v.get 0 * 65280) 1) rfl rfl (by decide) (Nat.le_of_ble_eq_true rfl) rfl rfl fun ht => ⟨(o5 rfl).symm, t0.symm, ?_⟩
    have e : valsG (kdAt 5) x = u1 (uw (atHd x (hdI x 1))) := rfl
    rw [e, uw_tail hx ht (i := 1) rfl (fun j _ => by show 0 ≤ v.get 0 * 65280 ∧ v.get 0 * 65280 < 65536; omega), n1]
    show u1 [v.get 0 * 65280] = [v.get 0]
    rcases hb with hb | hb <;> rw [hb] <;> rfl
  · subst h
    have t0 := o4 rfl
    refine main (P := [_] ++ w1 addr) (T := wN v.get v.n) rfl rfl (by decide) (Nat.le_of_ble_eq_true rfl) rfl rfl fun ht => ⟨(o5 rfl).symm, t0.symm, ?_⟩
    exact uw_tail hx ht (i := 1) rfl hvn
  · subst h
    have t0 := o4 rfl
    have hq1 := o6 (by decide)
    have hq2 := o7 rfl
    simp [kdAt, kdOf] at hq1
    refine main (P := [_] ++ w1 addr ++ w1 qty ++ [_]) (T := bN v.get v.n) rfl rfl (by decide) (Nat.le_of_ble_eq_true rfl) rfl rfl fun ht => ?_
    have w : wordW (atHd x (hdI x 1)) = qty := word_tail hx ht (i := 1) (Nat.lt_of_lt_of_le (by decide : 2 + 2 * 1 < 6) (Nat.le_refl 6)) rfl rfl (by omega)
    refine ⟨w, t0.symm, ?_⟩
    have e : valsG (kdAt 15) x = ub (atHd x (restH (hdI x 2))) (wordW (atHd x (hdI x 1))) := rfl
    rw [e, w, ← hq2]
    exact ub_rest hx ht (i := 2) rfl (by omega) (h01 (o1 rfl))
  · subst h
    have t0 := o4 rfl
    have hq1 := o6 (by decide)
    simp [kdAt, kdOf] at hq1
    refine main (P := [_] ++ w1 addr ++ w1 qty ++ [_]) (T := wN v.get v.n) rfl rfl (by decide) (Nat.le_of_ble_eq_true rfl) rfl rfl fun ht => ?_
    exact ⟨word_tail hx ht (i := 1) (Nat.lt_of_lt_of_le (by decide : 2 + 2 * 1 < 6) (Nat.le_refl 6)) rfl rfl (by omega), t0.symm, uw_rest hx ht (i := 2) rfl hvn⟩
  · subst h
    have t0 := o4 rfl
    refine main (P := [_] ++ w1 addr) (T := wN v.get v.n) rfl rfl (by decide) (Nat.le_of_ble_eq_true rfl) rfl rfl fun ht => ⟨(o5 rfl).symm, t0.symm, ?_⟩
    exact uw_tail hx ht (i := 1) rfl hvn
  · subst h
    have hq1 := o6 (by decide)
    simp [kdAt, kdOf] at hq1
    refine main (P := [_] ++ w1 addr ++ w1 qty ++ w1 to ++ w1 v.n ++ [_]) (T := wN v.get v.n) rfl rfl (by decide) (Nat.le_of_ble_eq_true rfl) rfl rfl fun ht => ?_
    exact ⟨word_tail hx ht (i := 1) (Nat.lt_of_lt_of_le (by decide : 2 + 2 * 1 < 10) (Nat.le_refl 10)) rfl rfl (by omega), word_tail hx ht (i := 2) (Nat.lt_of_lt_of_le (by decide : 2 + 2 * 2 < 10) (Nat.le_refl 10)) rfl rfl o3, uw_rest hx ht (i := 4) rfl hvn⟩
  · exfalso
    simp only [kdOf, h1, h2, h3, h4, h5, h6, h7, h8, h9, h10, if_false] at hs
    cases hs
theorem same_val {s t : SS} (hs : BOk s) (ht : BOk t) : same s t = true ↔ s.val = t.val := by
  have l1 := SS.val_len hs
  have l2 := SS.val_len ht
  simp only [same, Bool.and_eq_true, decide_eq_true_eq, allN_iff, eqv, beq_iff_eq]
  constructor
  · rintro ⟨h1, h2⟩
    refine List.ext_getElem (by omega) fun j g1 g2 => ?_
    have := h2 j (by omega)
    rw [← SS.val_getD (by omega), ← SS.val_getD (by omega)] at this
    simpa [List.getD_eq_getElem?_getD, g1, g2] using this
  · intro h
    refine ⟨by rw [← l1, ← l2, h], fun j hj => ?_⟩
    have : s.n = t.n := by rw [← l1, ← l2, h]
    rw [← SS.val_getD hj, ← SS.val_getD (by omega), h]
theorem fc_pos {q : Rq} (hr : right q = true) : q.fc = 5 → 0 < q.v.n := fun h5 => by
  simp only [right, Bool.and_eq_true] at hr
  have := right_nums hr.2.1
  rw [h5] at this
  have := this.2.2.2.2.2.2.2 rfl
  simp [kdAt, kdOf] at this
  omega
theorem putB_pos (k : Kd) (q : Rq) : 0 < (putB k q).length := by
  unfold putB
  cases q.fc == 5 <;> cases k.most == 0 <;> cases k.to <;> cases k.all <;> cases k.bits <;> simp only [cond_true, cond_false, Bool.and_true, Bool.and_false, List.length_append, List.length_cons, List.length_nil, w1_length, wN_length, bN_length] <;> omega
theorem kd_lt {n : Int} (h : (kdOf n).isSome = true) : 0 ≤ n ∧ n < 256 := by
  rcases kcases n with h | h | h | h | h | h | h | h | h | h | ⟨h1, h2, h3, h4, h5, h6, h7, h8, h9, h10⟩
  iterate 10 omega
  simp only [kdOf, h1, h2, h3, h4, h5, h6, h7, h8, h9, h10, if_false] at h
  cases h
theorem right_parts {q : Rq} (h : right q = true) : (kdOf q.fc).isSome = true ∧ shaped (kdAt q.fc) q = true ∧ ends (kdAt q.fc) q = true := by
  simpa only [right, Bool.and_eq_true] using h
/-- What is got of a right request's bytes has no exception. -/
theorem put_get {q : Rq} (hq : RqOk q) (hr : right q = true) {x : SS} (hx : BOk x) (hL : x.val = putL q) : codeG x = 0 ∧ RqEq (rqG (kG x) x (0, 0)) q := by
  have hL : x.val = putB (kdAt q.fc) q := by rw [hL, putL, hr]; rfl
  obtain ⟨g1, g2⟩ := got hq hr hx hL (0, 0)
  obtain ⟨r1, r2, r3⟩ := right_parts hr
  have hn : x.n ≠ 0 := by
    have := putB_pos (kdAt q.fc) q
    have := SS.val_len hx
    rw [hL] at this; omega
  have e1 : shaped (kG x) (rqG (kG x) x (0, 0)) = true := by rw [g2.shaped, g1]; exact r2
  refine ⟨code00 (by simpa using hn) ?_ e1 ?_ ?_, g2⟩
  · have : IntKind.i64.wrap (x.get 0) = q.fc := g2.fc
    rw [this]; exact r1
  · rw [same_val (putG_ok e1 _) hx]
    show SS.val ⟨false, true, 0, _, _, _, _, _⟩ = _
    rw [SS.val_all rfl, g2.putB (kG x) (by rw [g2.fc, g2.n]; exact fc_pos hr), g1, hL]
  · rw [g2.ends, g1]; exact r3
theorem vals_same {q : Rq} {x : SS} {y : Nat × Nat} (h : RqEq (rqG (kG x) x (0, 0)) q) : same (vG (kG x) x y) q.v = true := by
  have hn := h.n
  simp only [same, Bool.and_eq_true, decide_eq_true_eq, allN_iff, eqv, beq_iff_eq]
  exact ⟨hn, fun j hj => h.v j hj⟩
/-- What is got without an exception is right, and has its bytes. -/
theorem get_put {x : SS} (hx : BOk x) (h : codeG x = 0) : 0 < x.n ∧ right (rqG (kG x) x (0, 0)) = true ∧ putL (rqG (kG x) x (0, 0)) = x.val := by
  have h0 := h
  unfold codeG at h
  cases c0 : Nat.beq x.n 0 with
  | true => rw [c0] at h; cases h
  | false =>
  cases c1 : (kdOf (IntKind.i64.wrap (x.get 0))).isSome with
  | false => rw [c0, c1] at h; cases h
  | true =>
  cases c2 : shaped (kG x) (rqG (kG x) x (0, 0)) with
  | false => rw [c0, c1, c2] at h; cases h
  | true =>
  cases c3 : same (putG (kG x) x (0, 0)) x with
  | false => rw [c0, c1, c2, c3] at h; cases h
  | true =>
  cases c4 : ends (kG x) (rqG (kG x) x (0, 0)) with
  | false => rw [c0, c1, c2, c3, c4] at h; cases h
  | true =>
  have hr : right (rqG (kG x) x (0, 0)) = true := by
    simp only [right, Bool.and_eq_true]
    exact ⟨c1, c2, c4⟩
  refine ⟨?_, hr, ?_⟩
  · cases hn : x.n with
    | zero => rw [hn] at c0; cases c0
    | succ n => omega
  · rw [same_val (putG_ok c2 _) hx] at c3
    rw [← c3, putL, hr]
    show _ = SS.val ⟨false, true, 0, _, _, _, _, _⟩
    rw [SS.val_all rfl]; rfl
theorem code_cases (x : SS) : codeG x = 0 ∨ codeG x = 1 ∨ codeG x = 2 ∨ codeG x = 3 := by
  unfold codeG
  cases Nat.beq x.n 0
  rotate_left
  · exact .inr (.inl rfl)
  cases (kdOf (IntKind.i64.wrap (x.get 0))).isSome
  · exact .inr (.inl rfl)
  cases shaped (kG x) (rqG (kG x) x (0, 0))
  · exact .inr (.inr (.inr rfl))
  cases same (putG (kG x) x (0, 0)) x
  · exact .inr (.inr (.inr rfl))
  cases ends (kG x) (rqG (kG x) x (0, 0))
  · exact .inr (.inr (.inl rfl))
  · exact .inl rfl
/-- How many bytes there are. -/
theorem putL_len {q : Rq} : (putL q).length ≤ 253 ∧ (0 < (putL q).length ↔ right q = true) := by
  cases hr : right q with
  | false => simp [putL, hr]
  | true =>
    simp only [putL, hr, cond_true, iff_true]
    refine ⟨?_, putB_pos _ _⟩
    obtain ⟨r1, r2, r3⟩ := right_parts hr
    obtain ⟨o1, o2, o3, o4, o5, o6, o7, o8⟩ := right_nums r2
    obtain ⟨fc, addr, qty, v, to⟩ := q
    dsimp only at *
    rcases kcases fc with h | h | h | h | h | h | h | h | h | h | ⟨h1, h2, h3, h4, h5, h6, h7, h8, h9, h10⟩
    iterate 10
      · subst h
        simp [kdAt, kdOf] at o6 o7 o8
        simp only [putB, kdAt, kdOf]
        simp [w1_length, wN_length, bN_length]
        try omega
    simp only [kdOf, h1, h2, h3, h4, h5, h6, h7, h8, h9, h10, if_false] at r1
    cases r1
/-- No request's bytes go on as another one's. -/
theorem put_len_eq {fc : Int} {q p : Rq} (hq : q.fc = fc) (hp : p.fc = fc) (hk : (kdOf fc).isSome = true) (s1 : shaped (kdAt fc) q = true) (s2 : shaped (kdAt fc) p = true) {l : List Int} (h : putB (kdAt fc) p = putB (kdAt fc) q ++ l) : l = [] := by
  have hpre : ∀ j, j < (putB (kdAt fc) q).length → (putB (kdAt fc) p).getD j 0 = (putB (kdAt fc) q).getD j 0 := fun j hj => by rw [h, getD_app_left hj]
  have hlen : (putB (kdAt fc) p).length = (putB (kdAt fc) q).length + l.length := by rw [h, List.length_append]
  obtain ⟨o1, o2, o3, o4, o5, o6, o7, o8⟩ := right_nums s1
  obtain ⟨u1, u2, u3, u4, u5, u6, u7, u8⟩ := right_nums s2
  obtain ⟨f1, addr, qty, v, to⟩ := q
  obtain ⟨f2, addr2, qty2, v2, to2⟩ := p
  dsimp only at *
  subst hq hp
  suffices hz : l.length = 0 from List.eq_nil_of_length_eq_zero hz
  clear h
  rcases kcases f2 with h | h | h | h | h | h | h | h | h | h | ⟨h1, h2, h3, h4, h5, h6, h7, h8, h9, h10⟩
  iterate 6
    · subst h
      simp [kdAt, kdOf] at o6 o7 o8 u6 u7 u8
      simp [putB, kdAt, kdOf, w1_length, wN_length] at hlen
      first | (rw [hlen]; rfl) | omega
  · subst h
    simp [kdAt, kdOf] at o6 o7 u6 u7
    have hl : (putB (kdAt 15) ⟨15, addr, qty, v, to⟩).length = 6 + (v.n + 7) / 8 := by simp [putB, kdAt, kdOf, w1_length, bN_length]; omega
    have hl2 : (putB (kdAt 15) ⟨15, addr2, qty2, v2, to2⟩).length = 6 + (v2.n + 7) / 8 := by simp [putB, kdAt, kdOf, w1_length, bN_length]; omega
    have e3 : qty2 / 256 % 256 = qty / 256 % 256 := hpre 3 (by omega)
    have e4 : qty2 % 256 = qty % 256 := hpre 4 (by omega)
    omega
  · subst h
    simp [kdAt, kdOf] at o6 o7 u6 u7
    have hl : (putB (kdAt 16) ⟨16, addr, qty, v, to⟩).length = 6 + 2 * v.n := by simp [putB, kdAt, kdOf, w1_length, wN_length]; omega
    have hl2 : (putB (kdAt 16) ⟨16, addr2, qty2, v2, to2⟩).length = 6 + 2 * v2.n := by simp [putB, kdAt, kdOf, w1_length, wN_length]; omega
    have e3 : qty2 / 256 % 256 = qty / 256 % 256 := hpre 3 (by omega)
    have e4 : qty2 % 256 = qty % 256 := hpre 4 (by omega)
    omega
  · subst h
    simp [kdAt, kdOf] at o6 o7 o8 u6 u7 u8
    simp [putB, kdAt, kdOf, w1_length, wN_length] at hlen
    omega
  · subst h
    simp [kdAt, kdOf] at o8 u8
    have hl : (putB (kdAt 23) ⟨23, addr, qty, v, to⟩).length = 10 + 2 * v.n := by simp [putB, kdAt, kdOf, w1_length, wN_length]; omega
    have hl2 : (putB (kdAt 23) ⟨23, addr2, qty2, v2, to2⟩).length = 10 + 2 * v2.n := by simp [putB, kdAt, kdOf, w1_length, wN_length]; omega
    have e3 : (v2.n : Int) / 256 % 256 = (v.n : Int) / 256 % 256 := hpre 7 (by omega)
    have e4 : (v2.n : Int) % 256 = (v.n : Int) % 256 := hpre 8 (by omega)
    omega
  · simp only [kdOf, h1, h2, h3, h4, h5, h6, h7, h8, h9, h10, if_false] at hk
    cases hk
/-- Bytes that are cut, or have one more, deserve ExValue. -/
theorem not_get {q : Rq} (hq : RqOk q) (hr : right q = true) {x : SS} (hx : BOk x) (hn : 0 < x.n) {l : List Int} (hl : l ≠ []) (h : x.val ++ l = putL q ∨ x.val = putL q ++ l) : codeG x = 3 := by
  have e : putL q = putB (kdAt q.fc) q := by rw [putL, hr]; rfl
  obtain ⟨r1, r2, r3⟩ := right_parts hr
  have hfc := kd_lt r1
  have hv := SS.val_len hx
  have hp := putB_pos (kdAt q.fc) q
  have h00 : (putB (kdAt q.fc) q).getD 0 0 = q.fc := by
    have : (putB (kdAt q.fc) q).getD 0 0 = q.fc % 256 := by
      unfold putB
      cases q.fc == 5 <;> cases (kdAt q.fc).most == 0 <;> cases (kdAt q.fc).to <;> cases (kdAt q.fc).all <;> cases (kdAt q.fc).bits <;> rfl
    omega
  have g0 : x.get 0 = q.fc := by
    have : x.get 0 = x.val.getD 0 0 := by rw [SS.val_getD hn]; rfl
    rw [this, ← h00, ← e]
    rcases h with h | h
    · rw [← h, getD_app_left (by omega)]
    · rw [h, getD_app_left (by rw [e]; exact hp)]
  obtain ⟨k1, k2⟩ := kG_of g0 hfc
  have hn' : ((x.n : Int) == 0) = false := by simp; omega
  have hk : (kdOf (IntKind.i64.wrap (x.get 0))).isSome = true := by rw [k2]; exact r1
  cases c2 : shaped (kG x) (rqG (kG x) x (0, 0)) with
  | false => exact code3a hn' hk c2
  | true =>
  cases c3 : same (putG (kG x) x (0, 0)) x with
  | false => exact code3b hn' hk c2 c3
  | true =>
  exfalso
  rw [same_val (putG_ok c2 _) hx] at c3
  have c3 : putB (kG x) (rqG (kG x) x (0, 0)) = x.val := by
    rw [← c3]
    show _ = SS.val ⟨false, true, 0, _, _, _, _, _⟩
    rw [SS.val_all rfl]
  rw [k1] at c2 c3
  rcases h with h | h
  · rw [e, ← c3] at h
    exact hl (put_len_eq (q := rqG (kdAt q.fc) x (0, 0)) k2 rfl r1 c2 r2 h.symm)
  · rw [e, ← c3] at h
    exact hl (put_len_eq (p := rqG (kdAt q.fc) x (0, 0)) rfl k2 r1 r2 c2 h)
end Go.Wk.P04
