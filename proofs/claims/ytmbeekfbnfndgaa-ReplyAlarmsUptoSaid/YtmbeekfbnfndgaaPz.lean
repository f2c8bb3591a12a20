/-
  The arguments of a law; under the rows' own bounds.
-/
import Derived.Test.YtmbeekfbnfndgaaPg
import Derived.Test.YtmbeekfbnfndgaaKc
namespace Go.Wk.P04
open Go Go.Vs Go.Proofs Go.ChangeShapes Go.WideShapes Go.ChangeAt Go.RowKit
set_option linter.unusedSimpArgs false
set_option linter.unusedVariables false
set_option maxRecDepth 10000

/-! arguments of a law -/
theorem getD_wf {k : IntKind} {l : List Int} (h : ∀ x ∈ l, (Lit.int k x).wf = true) {i : Nat} (hi : i < l.length) : (Lit.int k (l.getD i 0)).wf = true := by
  rw [List.getD_eq_getElem?_getD, List.getElem?_eq_getElem hi]
  exact h _ (List.getElem_mem _)
theorem wf_in {k : IntKind} {x : Int} (h : (Lit.int k x).wf = true) : k.min ≤ x ∧ x ≤ k.max := by simpa [Lit.wf] using h
theorem wf_u8 {x : Int} (h : (Lit.int .u8 x).wf = true) : 0 ≤ x ∧ x < 256 := by
  obtain ⟨h1, h2⟩ := wf_in h
  rw [show IntKind.u8.min = 0 from rfl] at h1
  rw [show IntKind.u8.max = 255 from rfl] at h2
  omega
theorem wf_u16 {x : Int} (h : (Lit.int .u16 x).wf = true) : 0 ≤ x ∧ x < 65536 := by
  obtain ⟨h1, h2⟩ := wf_in h
  rw [show IntKind.u16.min = 0 from rfl] at h1
  rw [show IntKind.u16.max = 65535 from rfl] at h2
  omega
theorem wf_i64 {x : Int} (h : (Lit.int .i64 x).wf = true) : I64 x := wf_in h
theorem bytes_arg {n : Nat} {vs : List AV} {H : AHeap} (h : CellsArg 1048576 [.row 5 [.int .u8]] n vs H) : ∃ s : SS, BOk s ∧ vs = [ssV s n] ∧ H = [some (bO s)] := by
  simp only [CellsArg, CellArg, ColsSh, ColSh] at h
  obtain ⟨v, H1, vs', H2, rfl, rfl, ⟨hd, cols, rfl, rfl, ⟨h1, h2, h3⟩, c, cs', rfl, ⟨l, rfl, hl, hw⟩, rfl⟩, rfl, rfl⟩ := h
  exact ⟨⟨hd.nl, false, 0, hd.len, hd.cap, hd.cap, hd.len, l⟩, ⟨hl, by simp, by show hd.len ≤ 2000000; omega, h1, by simp, fun hh => by have := h3 hh; show hd.len = 0; omega, fun i hi => by
    have hi : i < hd.len := hi
    simp only [Nat.zero_add]
    exact wf_u8 (getD_wf hw (by omega))⟩, rfl, rfl⟩
theorem words_arg {n : Nat} {vs : List AV} {H : AHeap} (h : CellsArg 1048576 [.row 44 [.int .u16]] n vs H) : ∃ s : SS, WOk s ∧ vs = [ssV s n] ∧ H = [some (wO s)] := by
  simp only [CellsArg, CellArg, ColsSh, ColSh] at h
  obtain ⟨v, H1, vs', H2, rfl, rfl, ⟨hd, cols, rfl, rfl, ⟨h1, h2, h3⟩, c, cs', rfl, ⟨l, rfl, hl, hw⟩, rfl⟩, rfl, rfl⟩ := h
  exact ⟨⟨hd.nl, false, 0, hd.len, hd.cap, hd.cap, hd.len, l⟩, ⟨hl, by simp, by show hd.len ≤ 2000000; omega, h1, by simp, fun hh => by have := h3 hh; show hd.len = 0; omega, fun i hi => by
    have hi : i < hd.len := hi
    simp only [Nat.zero_add]
    exact wf_u16 (getD_wf hw (by omega))⟩, rfl, rfl⟩
theorem int_arg {k : IntKind} {n : Nat} {vs : List AV} {H : AHeap} (h : CellsArg 1048576 [.int k] n vs H) : ∃ z : Int, (Lit.int k z).wf = true ∧ vs = [.val (.int k z)] ∧ H = [] := by
  simp only [CellsArg, CellArg] at h
  obtain ⟨v, H1, vs', H2, rfl, rfl, ⟨z, rfl, hz, rfl⟩, rfl, rfl⟩ := h
  exact ⟨z, hz, rfl, rfl⟩
theorem cells_cons {B : Nat} {s : Sh} {r : List Sh} {n : Nat} {vs : List AV} {H : AHeap} (h : CellsArg B (s :: r) n vs H) : ∃ v H1 vs' H2, vs = v :: vs' ∧ H = H1 ++ H2 ∧ CellsArg B [s] n [v] H1 ∧ CellsArg B r (n + H1.length) vs' H2 := by
  simp only [CellsArg] at h ⊢
  obtain ⟨v, H1, vs', H2, rfl, rfl, h1, h2⟩ := h
  exact ⟨v, H1, vs', H2, rfl, rfl, ⟨v, H1, [], [], rfl, by simp, h1, rfl, rfl⟩, h2⟩
theorem req_arg {n : Nat} {vs : List AV} {H : AHeap} (h : CellsArg 1048576 [.int .i64, .int .i64, .int .i64, .row 44 [.int .u16], .int .i64] n vs H) : ∃ q : Rq, RqOk q ∧ AV.agg vs = rqV q n ∧ H = [some (wO q.v)] := by
  obtain ⟨v1, H1, r1, K1, rfl, rfl, a1, h⟩ := cells_cons h
  obtain ⟨v2, H2, r2, K2, rfl, rfl, a2, h⟩ := cells_cons h
  obtain ⟨v3, H3, r3, K3, rfl, rfl, a3, h⟩ := cells_cons h
  obtain ⟨v4, H4, r4, K4, rfl, rfl, a4, h⟩ := cells_cons h
  obtain ⟨fc, f1, e1, rfl⟩ := int_arg a1
  obtain ⟨addr, f2, e2, rfl⟩ := int_arg a2
  obtain ⟨qty, f3, e3, rfl⟩ := int_arg a3
  obtain ⟨s, f4, e4, rfl⟩ := words_arg a4
  obtain ⟨to, f5, rfl, rfl⟩ := int_arg h
  injection e1 with e1
  injection e2 with e2
  injection e3 with e3
  injection e4 with e4
  subst e1 e2 e3 e4
  exact ⟨⟨fc, addr, qty, s, to⟩, ⟨wf_i64 f1, wf_i64 f2, wf_i64 f3, wf_i64 f5, f4⟩, rfl, rfl⟩

end Go.Wk.P04
