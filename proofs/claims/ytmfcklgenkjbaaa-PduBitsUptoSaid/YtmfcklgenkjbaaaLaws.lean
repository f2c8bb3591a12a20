/-
  PduKinds, PduBounds, PduBits, PduBack and PduWrong return true at every input, and leave their arguments as they were; where the arguments hold at most 1048576 values and letters (the rows' own bound).
-/
import Derived.Test.YtmfcklgenkjbaaaRows
import Derived.Test.YtmfcklgenkjbaaaPn
import Derived.Test.YtmfcklgenkjbaaaPr
import Derived.Test.YtmfcklgenkjbaaaKc
namespace Go.Proofs.Ytmfcklgenkjbaaa
open Go Go.Vs Go.Proofs Go.Wk.P04 Go.ChangeShapes Go.WideShapes Go.ChangeAt Go.RowKit
set_option linter.unusedSimpArgs false
set_option linter.unusedVariables false
set_option maxRecDepth 10000

theorem one_le {H : Type} (d : DataW H) : 1 ≤ Rows.uptoBulk d := by
  cases d with
  | lit l => cases l <;> simp [Rows.uptoBulk]
  | _ => simp [Rows.uptoBulk]
def bulk (H : Type) : Bulk H where
  one := Rows.uptoBulk
  all := Rows.uptoBulkAll
  slice := fun es rs => by simp only [Rows.uptoBulk]
  agg := fun ps => by simp only [Rows.uptoBulk]
  str := fun b => by simp only [Rows.uptoBulk]
  pos := one_le
  nil := by simp only [Rows.uptoBulkAll]
  cons := fun d r => by simp only [Rows.uptoBulkAll]
theorem bound {H : Type} {l : List (DataW H)} (hk : Rows.uptoSmall H l = true) : Rows.uptoBulkAll l ≤ 1048576 := of_decide_eq_true hk
theorem own : ownKnob Try.prog.godebug = none := by kernel_rfl
theorem hl : laidOutB Try.prog = true := by kernel_rfl
theorem hmr : mapsRowed Try.prog = true := by kernel_rfl
theorem hfull : ((List.range Try.prog.types.size).all fun t => match Try.prog.underlying t with | some (.slice e) => decide (0 < Try.prog.cellsOf e) | _ => true) = true := by kernel_rfl

theorem getD_wf {k : IntKind} {l : List Int} (h : ∀ x ∈ l, (Lit.int k x).wf = true) {i : Nat} (hi : i < l.length) : (Lit.int k (l.getD i 0)).wf = true := by
  rw [List.getD_eq_getElem?_getD, List.getElem?_eq_getElem hi]
  exact h _ (List.getElem_mem _)
theorem wf_in {k : IntKind} {x : Int} (h : (Lit.int k x).wf = true) : k.min ≤ x ∧ x ≤ k.max := by simpa [Lit.wf] using h
theorem wf_u8 {x : Int} (h : (Lit.int .u8 x).wf = true) : 0 ≤ x ∧ x < 256 := by
  obtain ⟨h1, h2⟩ := wf_in h
  rw [show IntKind.u8.min = 0 from rfl] at h1
  rw [show IntKind.u8.max = 255 from rfl] at h2
  omega
theorem wf_u16 {x : Int} (h : (Lit.int .u16 x).wf = true) : 0 ≤ x ∧ x < 65536 := by
  obtain ⟨h1, h2⟩ := wf_in h
  rw [show IntKind.u16.min = 0 from rfl] at h1
  rw [show IntKind.u16.max = 65535 from rfl] at h2
  omega
theorem wf_i64 {x : Int} (h : (Lit.int .i64 x).wf = true) : I64 x := wf_in h
theorem bytes_arg {n : Nat} {vs : List AV} {H : AHeap} (h : CellsArg 1048576 [.row 5 [.int .u8]] n vs H) : ∃ s : SS, BOk s ∧ vs = [ssV s n] ∧ H = [some (bO s)] := by
  simp only [CellsArg, CellArg, ColsSh, ColSh] at h
  obtain ⟨v, H1, vs', H2, rfl, rfl, ⟨hd, cols, rfl, rfl, ⟨h1, h2, h3⟩, c, cs', rfl, ⟨l, rfl, hl, hw⟩, rfl⟩, rfl, rfl⟩ := h
  exact ⟨⟨hd.nl, false, 0, hd.len, hd.cap, hd.cap, hd.len, l⟩, ⟨hl, by simp, by show hd.len ≤ 2000000; omega, h1, by simp, fun hh => by have := h3 hh; show hd.len = 0; omega, fun i hi => by
    have hi : i < hd.len := hi
    simp only [Nat.zero_add]
    exact wf_u8 (getD_wf hw (by omega))⟩, rfl, rfl⟩
theorem words_arg {n : Nat} {vs : List AV} {H : AHeap} (h : CellsArg 1048576 [.row 33 [.int .u16]] n vs H) : ∃ s : SS, WOk s ∧ vs = [ssV s n] ∧ H = [some (wO s)] := by
  simp only [CellsArg, CellArg, ColsSh, ColSh] at h
  obtain ⟨v, H1, vs', H2, rfl, rfl, ⟨hd, cols, rfl, rfl, ⟨h1, h2, h3⟩, c, cs', rfl, ⟨l, rfl, hl, hw⟩, rfl⟩, rfl, rfl⟩ := h
  exact ⟨⟨hd.nl, false, 0, hd.len, hd.cap, hd.cap, hd.len, l⟩, ⟨hl, by simp, by show hd.len ≤ 2000000; omega, h1, by simp, fun hh => by have := h3 hh; show hd.len = 0; omega, fun i hi => by
    have hi : i < hd.len := hi
    simp only [Nat.zero_add]
    exact wf_u16 (getD_wf hw (by omega))⟩, rfl, rfl⟩
theorem int_arg {k : IntKind} {n : Nat} {vs : List AV} {H : AHeap} (h : CellsArg 1048576 [.int k] n vs H) : ∃ z : Int, (Lit.int k z).wf = true ∧ vs = [.val (.int k z)] ∧ H = [] := by
  simp only [CellsArg, CellArg] at h
  obtain ⟨v, H1, vs', H2, rfl, rfl, ⟨z, rfl, hz, rfl⟩, rfl, rfl⟩ := h
  exact ⟨z, hz, rfl, rfl⟩
theorem cells_cons {B : Nat} {s : Sh} {r : List Sh} {n : Nat} {vs : List AV} {H : AHeap} (h : CellsArg B (s :: r) n vs H) : ∃ v H1 vs' H2, vs = v :: vs' ∧ H = H1 ++ H2 ∧ CellsArg B [s] n [v] H1 ∧ CellsArg B r (n + H1.length) vs' H2 := by
  simp only [CellsArg] at h ⊢
  obtain ⟨v, H1, vs', H2, rfl, rfl, h1, h2⟩ := h
  exact ⟨v, H1, vs', H2, rfl, rfl, ⟨v, H1, [], [], rfl, by simp, h1, rfl, rfl⟩, h2⟩
theorem req_arg {n : Nat} {vs : List AV} {H : AHeap} (h : CellsArg 1048576 [.int .i64, .int .i64, .int .i64, .row 33 [.int .u16], .int .i64] n vs H) : ∃ q : Rq, RqOk q ∧ AV.agg vs = rqV q n ∧ H = [some (wO q.v)] := by
  obtain ⟨v1, H1, r1, K1, rfl, rfl, a1, h⟩ := cells_cons h
  obtain ⟨v2, H2, r2, K2, rfl, rfl, a2, h⟩ := cells_cons h
  obtain ⟨v3, H3, r3, K3, rfl, rfl, a3, h⟩ := cells_cons h
  obtain ⟨v4, H4, r4, K4, rfl, rfl, a4, h⟩ := cells_cons h
  obtain ⟨fc, f1, e1, rfl⟩ := int_arg a1
  obtain ⟨addr, f2, e2, rfl⟩ := int_arg a2
  obtain ⟨qty, f3, e3, rfl⟩ := int_arg a3
  obtain ⟨s, f4, e4, rfl⟩ := words_arg a4
  obtain ⟨to, f5, rfl, rfl⟩ := int_arg h
  injection e1 with e1
  injection e2 with e2
  injection e3 with e3
  injection e4 with e4
  subst e1 e2 e3 e4
  exact ⟨⟨fc, addr, qty, s, to⟩, ⟨wf_i64 f1, wf_i64 f2, wf_i64 f3, wf_i64 f5, f4⟩, rfl, rfl⟩

theorem pduKindsPs : pshs Try.prog Try.f7.params.toList = some [⟨false, [.int .i64]⟩] := by kernel_rfl
theorem pduKinds_law : LawOk Try.prog Try.f7 1048576 := by
  intro ps hps args H ha
  obtain rfl := Option.some.inj (pduKindsPs.symm.trans hps)
  simp only [ArgsSh] at ha
  obtain ⟨vs, H1, as', H2, a1, rfl, rfl, rfl, rfl⟩ := ha
  obtain ⟨z, hz, rfl, rfl⟩ := int_arg a1
  exact ⟨Γ11, _, Γ11_ok, kinds04_vc z⟩
theorem pduKinds_contract (H : Type) (enc : TypeId × Value → H) (W : World) (base : Nat) (args : Array Value) (ds gs : List (DataW H)) (before : List MemPlace)
    (hval : ∀ (j : Nat) t v, Try.f7.params[j]? = some t → args[j]? = some v → Value.okWide Try.prog W .any base t v)
    (hW : DataW.Whole enc Try.prog Try.f7.params.toList Rows.pduKindsSpec.vars false W args.toList ds gs before) (hk : Rows.uptoSmall H (ds ++ gs) = true) :
    Calls Try.prog 7 args W fun e W' => ∃ v, e = .returned v ∧ Rows.pduKindsSpec.post enc Try.prog Try.f7 false true false false W args v W' :=
  law_contract (bulk H) hm Try.func7 pduKinds_law pduKindsPs hl hmr hfull (by kernel_rfl) (tb := 4) rfl Try.underlying4 rfl (fun ds hd => by
    match ds, hd with
    | [d1], _ => rfl) hval hW (bound hk)
set_option maxRecDepth 100000 in
theorem pduKinds_lifted (os : Os) (started : os.Started) (H : Type) (enc : TypeId × Value → H) (F : Stop.Interp) :
    ReturnsInHanded {} Try.checked os 7 .any ((Rows.OpenSpec.upto Rows.pduKindsSpec).pre6 enc Try.prog Try.f7 Rows.pduKindsUptoRow.domain false) (((Rows.OpenSpec.upto Rows.pduKindsSpec).at F).post enc Try.prog Try.f7 false true false false) := by
  refine returnsInHanded_of_cond (C := Try.checked) (s := Rows.OpenSpec.upto Rows.pduKindsSpec) (k := Rows.uptoSmall) rfl own started (by kernel_rfl) Try.func7
    (OpenSpec.witness (enc := enc) (C := Try.checked) (s := Rows.OpenSpec.upto Rows.pduKindsSpec) (k := Rows.uptoSmall) rfl false ⟨#[], #[.int .i64 0], []⟩ 8 (by kernel_rfl) (by kernel_rfl) (by kernel_rfl)
      (x := ([.lit (.int .i64 0)], [], [])) (by kernel_rfl) rfl (by kernel_rfl)) ?_
  intro W base args ds gs before hval hW _ hk _
  exact pduKinds_contract H enc W base args ds gs before hval hW hk
theorem pduKinds_holds : Rows.PduKindsUptoSaid :=
  OpenClaim.holds_of_cond 7 Try.f7 rfl rfl rfl rfl rfl rfl rfl ⟨rfl, rfl, rfl, rfl, rfl⟩ rfl rfl rfl rfl rfl (by kernel_rfl) Try.func7 (by kernel_rfl)
    (of_decide_eq_true (by kernel_rfl)) (by unfold Func.isWrapper; first | (rw [if_pos (by decide +kernel)]; kernel_rfl) | (rw [if_neg (by decide +kernel)]; exact ⟨rfl, rfl⟩))
    (fun os started H enc _ F => pduKinds_lifted os started H enc F)

theorem pduBoundsPs : pshs Try.prog Try.f6.params.toList = some [⟨false, [.int .u8]⟩, ⟨false, [.int .u16]⟩, ⟨false, [.int .u16]⟩] := by kernel_rfl
theorem pduBounds_law : LawOk Try.prog Try.f6 1048576 := by
  intro ps hps args H ha
  obtain rfl := Option.some.inj (pduBoundsPs.symm.trans hps)
  simp only [ArgsSh] at ha
  obtain ⟨vs, H1, as', H2, a1, rfl, rfl, vs2, H3, as2, H4, a2, rfl, rfl, vs3, H5, as3, H6, a3, rfl, rfl, rfl, rfl⟩ := ha
  obtain ⟨z1, hz1, rfl, rfl⟩ := int_arg a1
  obtain ⟨z2, hz2, rfl, rfl⟩ := int_arg a2
  obtain ⟨z3, hz3, rfl, rfl⟩ := int_arg a3
  exact ⟨Γ11, _, Γ11_ok, bounds04_vc z1 z2 z3 (wf_u8 hz1) (wf_u16 hz2) (wf_u16 hz3)⟩
theorem pduBounds_contract (H : Type) (enc : TypeId × Value → H) (W : World) (base : Nat) (args : Array Value) (ds gs : List (DataW H)) (before : List MemPlace)
    (hval : ∀ (j : Nat) t v, Try.f6.params[j]? = some t → args[j]? = some v → Value.okWide Try.prog W .any base t v)
    (hW : DataW.Whole enc Try.prog Try.f6.params.toList Rows.pduBoundsSpec.vars false W args.toList ds gs before) (hk : Rows.uptoSmall H (ds ++ gs) = true) :
    Calls Try.prog 6 args W fun e W' => ∃ v, e = .returned v ∧ Rows.pduBoundsSpec.post enc Try.prog Try.f6 false true false false W args v W' :=
  law_contract (bulk H) hm Try.func6 pduBounds_law pduBoundsPs hl hmr hfull (by kernel_rfl) (tb := 4) rfl Try.underlying4 rfl (fun ds hd => by
    match ds, hd with
    | [d1, d2, d3], _ => rfl) hval hW (bound hk)
set_option maxRecDepth 100000 in
theorem pduBounds_lifted (os : Os) (started : os.Started) (H : Type) (enc : TypeId × Value → H) (F : Stop.Interp) :
    ReturnsInHanded {} Try.checked os 6 .any ((Rows.OpenSpec.upto Rows.pduBoundsSpec).pre6 enc Try.prog Try.f6 Rows.pduBoundsUptoRow.domain false) (((Rows.OpenSpec.upto Rows.pduBoundsSpec).at F).post enc Try.prog Try.f6 false true false false) := by
  refine returnsInHanded_of_cond (C := Try.checked) (s := Rows.OpenSpec.upto Rows.pduBoundsSpec) (k := Rows.uptoSmall) rfl own started (by kernel_rfl) Try.func6
    (OpenSpec.witness (enc := enc) (C := Try.checked) (s := Rows.OpenSpec.upto Rows.pduBoundsSpec) (k := Rows.uptoSmall) rfl false ⟨#[], #[.int .u8 0, .int .u16 0, .int .u16 0], []⟩ 8 (by kernel_rfl) (by kernel_rfl) (by kernel_rfl)
      (x := ([.lit (.int .u8 0), .lit (.int .u16 0), .lit (.int .u16 0)], [], [])) (by kernel_rfl) rfl (by kernel_rfl)) ?_
  intro W base args ds gs before hval hW _ hk _
  exact pduBounds_contract H enc W base args ds gs before hval hW hk
theorem pduBounds_holds : Rows.PduBoundsUptoSaid :=
  OpenClaim.holds_of_cond 6 Try.f6 rfl rfl rfl rfl rfl rfl rfl ⟨rfl, rfl, rfl, rfl, rfl⟩ rfl rfl rfl rfl rfl (by kernel_rfl) Try.func6 (by kernel_rfl)
    (of_decide_eq_true (by kernel_rfl)) (by unfold Func.isWrapper; first | (rw [if_pos (by decide +kernel)]; kernel_rfl) | (rw [if_neg (by decide +kernel)]; exact ⟨rfl, rfl⟩))
    (fun os started H enc _ F => pduBounds_lifted os started H enc F)

theorem pduBitsPs : pshs Try.prog Try.f5.params.toList = some [⟨false, [.row 33 [.int .u16]]⟩, ⟨false, [.row 5 [.int .u8]]⟩] := by kernel_rfl
theorem pduBits_law : LawOk Try.prog Try.f5 1048576 := by
  intro ps hps args H ha
  obtain rfl := Option.some.inj (pduBitsPs.symm.trans hps)
  simp only [ArgsSh] at ha
  obtain ⟨vs, H1, as', H2, a1, rfl, rfl, vs2, H3, as2, H4, a2, rfl, rfl, rfl, rfl⟩ := ha
  obtain ⟨l, hl, rfl, rfl⟩ := words_arg a1
  obtain ⟨b, hb, rfl, rfl⟩ := bytes_arg a2
  exact ⟨Γ11, _, Γ11_ok, bits04_vc l b hl hb⟩
theorem pduBits_contract (H : Type) (enc : TypeId × Value → H) (W : World) (base : Nat) (args : Array Value) (ds gs : List (DataW H)) (before : List MemPlace)
    (hval : ∀ (j : Nat) t v, Try.f5.params[j]? = some t → args[j]? = some v → Value.okWide Try.prog W .any base t v)
    (hW : DataW.Whole enc Try.prog Try.f5.params.toList Rows.pduBitsSpec.vars false W args.toList ds gs before) (hk : Rows.uptoSmall H (ds ++ gs) = true) :
    Calls Try.prog 5 args W fun e W' => ∃ v, e = .returned v ∧ Rows.pduBitsSpec.post enc Try.prog Try.f5 false true false false W args v W' :=
  law_contract (bulk H) hm Try.func5 pduBits_law pduBitsPs hl hmr hfull (by kernel_rfl) (tb := 4) rfl Try.underlying4 rfl (fun ds hd => by
    match ds, hd with
    | [d1, d2], _ => rfl) hval hW (bound hk)
set_option maxRecDepth 100000 in
theorem pduBits_lifted (os : Os) (started : os.Started) (H : Type) (enc : TypeId × Value → H) (F : Stop.Interp) :
    ReturnsInHanded {} Try.checked os 5 .any ((Rows.OpenSpec.upto Rows.pduBitsSpec).pre6 enc Try.prog Try.f5 Rows.pduBitsUptoRow.domain false) (((Rows.OpenSpec.upto Rows.pduBitsSpec).at F).post enc Try.prog Try.f5 false true false false) := by
  refine returnsInHanded_of_cond (C := Try.checked) (s := Rows.OpenSpec.upto Rows.pduBitsSpec) (k := Rows.uptoSmall) rfl own started (by kernel_rfl) Try.func5
    (OpenSpec.witness (enc := enc) (C := Try.checked) (s := Rows.OpenSpec.upto Rows.pduBitsSpec) (k := Rows.uptoSmall) rfl false ⟨#[], #[.slice none 0 0, .slice none 0 0], []⟩ 8 (by kernel_rfl) (by kernel_rfl) (by kernel_rfl)
      (x := ([.nil, .nil], [], [])) (by kernel_rfl) rfl (by kernel_rfl)) ?_
  intro W base args ds gs before hval hW _ hk _
  exact pduBits_contract H enc W base args ds gs before hval hW hk
theorem pduBits_holds : Rows.PduBitsUptoSaid :=
  OpenClaim.holds_of_cond 5 Try.f5 rfl rfl rfl rfl rfl rfl rfl ⟨rfl, rfl, rfl, rfl, rfl⟩ rfl rfl rfl rfl rfl (by kernel_rfl) Try.func5 (by kernel_rfl)
    (of_decide_eq_true (by kernel_rfl)) (by unfold Func.isWrapper; first | (rw [if_pos (by decide +kernel)]; kernel_rfl) | (rw [if_neg (by decide +kernel)]; exact ⟨rfl, rfl⟩))
    (fun os started H enc _ F => pduBits_lifted os started H enc F)

theorem pduBackPs : pshs Try.prog Try.f3.params.toList = some [⟨true, [.int .i64, .int .i64, .int .i64, .row 33 [.int .u16], .int .i64]⟩, ⟨false, [.row 5 [.int .u8]]⟩] := by kernel_rfl
theorem pduBack_law : LawOk Try.prog Try.f3 1048576 := by
  intro ps hps args H ha
  obtain rfl := Option.some.inj (pduBackPs.symm.trans hps)
  simp only [ArgsSh] at ha
  obtain ⟨vs, H1, as', H2, a1, rfl, rfl, vs2, H3, as2, H4, a2, rfl, rfl, rfl, rfl⟩ := ha
  obtain ⟨q, hq, e, rfl⟩ := req_arg a1
  obtain ⟨b, hb, rfl, rfl⟩ := bytes_arg a2
  simp only [oneV]
  rw [e]
  exact ⟨Γ11, _, Γ11_ok, back04_vc q b hq hb⟩
theorem pduBack_contract (H : Type) (enc : TypeId × Value → H) (W : World) (base : Nat) (args : Array Value) (ds gs : List (DataW H)) (before : List MemPlace)
    (hval : ∀ (j : Nat) t v, Try.f3.params[j]? = some t → args[j]? = some v → Value.okWide Try.prog W .any base t v)
    (hW : DataW.Whole enc Try.prog Try.f3.params.toList Rows.pduBackSpec.vars false W args.toList ds gs before) (hk : Rows.uptoSmall H (ds ++ gs) = true) :
    Calls Try.prog 3 args W fun e W' => ∃ v, e = .returned v ∧ Rows.pduBackSpec.post enc Try.prog Try.f3 false true false false W args v W' :=
  law_contract (bulk H) hm Try.func3 pduBack_law pduBackPs hl hmr hfull (by kernel_rfl) (tb := 4) rfl Try.underlying4 rfl (fun ds hd => by
    match ds, hd with
    | [d1, d2], _ => rfl) hval hW (bound hk)
set_option maxRecDepth 100000 in
theorem pduBack_lifted (os : Os) (started : os.Started) (H : Type) (enc : TypeId × Value → H) (F : Stop.Interp) :
    ReturnsInHanded {} Try.checked os 3 .any ((Rows.OpenSpec.upto Rows.pduBackSpec).pre6 enc Try.prog Try.f3 Rows.pduBackUptoRow.domain false) (((Rows.OpenSpec.upto Rows.pduBackSpec).at F).post enc Try.prog Try.f3 false true false false) := by
  refine returnsInHanded_of_cond (C := Try.checked) (s := Rows.OpenSpec.upto Rows.pduBackSpec) (k := Rows.uptoSmall) rfl own started (by kernel_rfl) Try.func3
    (OpenSpec.witness (enc := enc) (C := Try.checked) (s := Rows.OpenSpec.upto Rows.pduBackSpec) (k := Rows.uptoSmall) rfl false ⟨#[], #[.agg #[.int .i64 0, .int .i64 0, .int .i64 0, .slice none 0 0, .int .i64 0], .slice none 0 0], []⟩ 8 (by kernel_rfl) (by kernel_rfl) (by kernel_rfl)
      (x := ([.agg [.lit (.int .i64 0), .lit (.int .i64 0), .lit (.int .i64 0), .nil, .lit (.int .i64 0)], .nil], [], [])) (by kernel_rfl) rfl (by kernel_rfl)) ?_
  intro W base args ds gs before hval hW _ hk _
  exact pduBack_contract H enc W base args ds gs before hval hW hk
theorem pduBack_holds : Rows.PduBackUptoSaid :=
  OpenClaim.holds_of_cond 3 Try.f3 rfl rfl rfl rfl rfl rfl rfl ⟨rfl, rfl, rfl, rfl, rfl⟩ rfl rfl rfl rfl rfl (by kernel_rfl) Try.func3 (by kernel_rfl)
    (of_decide_eq_true (by kernel_rfl)) (by unfold Func.isWrapper; first | (rw [if_pos (by decide +kernel)]; kernel_rfl) | (rw [if_neg (by decide +kernel)]; exact ⟨rfl, rfl⟩))
    (fun os started H enc _ F => pduBack_lifted os started H enc F)

theorem pduWrongPs : pshs Try.prog Try.f4.params.toList = some [⟨true, [.int .i64, .int .i64, .int .i64, .row 33 [.int .u16], .int .i64]⟩, ⟨false, [.int .u16]⟩, ⟨false, [.int .u8]⟩] := by kernel_rfl
theorem pduWrong_law : LawOk Try.prog Try.f4 1048576 := by
  intro ps hps args H ha
  obtain rfl := Option.some.inj (pduWrongPs.symm.trans hps)
  simp only [ArgsSh] at ha
  obtain ⟨vs, H1, as', H2, a1, rfl, rfl, vs2, H3, as2, H4, a2, rfl, rfl, vs3, H5, as3, H6, a3, rfl, rfl, rfl, rfl⟩ := ha
  obtain ⟨q, hq, e, rfl⟩ := req_arg a1
  obtain ⟨z2, hz2, rfl, rfl⟩ := int_arg a2
  obtain ⟨z3, hz3, rfl, rfl⟩ := int_arg a3
  simp only [oneV]
  rw [e]
  exact ⟨Γ11, _, Γ11_ok, wrong04_vc q z2 z3 hq (wf_u16 hz2) (wf_u8 hz3)⟩
theorem pduWrong_contract (H : Type) (enc : TypeId × Value → H) (W : World) (base : Nat) (args : Array Value) (ds gs : List (DataW H)) (before : List MemPlace)
    (hval : ∀ (j : Nat) t v, Try.f4.params[j]? = some t → args[j]? = some v → Value.okWide Try.prog W .any base t v)
    (hW : DataW.Whole enc Try.prog Try.f4.params.toList Rows.pduWrongSpec.vars false W args.toList ds gs before) (hk : Rows.uptoSmall H (ds ++ gs) = true) :
    Calls Try.prog 4 args W fun e W' => ∃ v, e = .returned v ∧ Rows.pduWrongSpec.post enc Try.prog Try.f4 false true false false W args v W' :=
  law_contract (bulk H) hm Try.func4 pduWrong_law pduWrongPs hl hmr hfull (by kernel_rfl) (tb := 4) rfl Try.underlying4 rfl (fun ds hd => by
    match ds, hd with
    | [d1, d2, d3], _ => rfl) hval hW (bound hk)
set_option maxRecDepth 100000 in
theorem pduWrong_lifted (os : Os) (started : os.Started) (H : Type) (enc : TypeId × Value → H) (F : Stop.Interp) :
    ReturnsInHanded {} Try.checked os 4 .any ((Rows.OpenSpec.upto Rows.pduWrongSpec).pre6 enc Try.prog Try.f4 Rows.pduWrongUptoRow.domain false) (((Rows.OpenSpec.upto Rows.pduWrongSpec).at F).post enc Try.prog Try.f4 false true false false) := by
  refine returnsInHanded_of_cond (C := Try.checked) (s := Rows.OpenSpec.upto Rows.pduWrongSpec) (k := Rows.uptoSmall) rfl own started (by kernel_rfl) Try.func4
    (OpenSpec.witness (enc := enc) (C := Try.checked) (s := Rows.OpenSpec.upto Rows.pduWrongSpec) (k := Rows.uptoSmall) rfl false ⟨#[], #[.agg #[.int .i64 0, .int .i64 0, .int .i64 0, .slice none 0 0, .int .i64 0], .int .u16 0, .int .u8 0], []⟩ 8 (by kernel_rfl) (by kernel_rfl) (by kernel_rfl)
      (x := ([.agg [.lit (.int .i64 0), .lit (.int .i64 0), .lit (.int .i64 0), .nil, .lit (.int .i64 0)], .lit (.int .u16 0), .lit (.int .u8 0)], [], [])) (by kernel_rfl) rfl (by kernel_rfl)) ?_
  intro W base args ds gs before hval hW _ hk _
  exact pduWrong_contract H enc W base args ds gs before hval hW hk
theorem pduWrong_holds : Rows.PduWrongUptoSaid :=
  OpenClaim.holds_of_cond 4 Try.f4 rfl rfl rfl rfl rfl rfl rfl ⟨rfl, rfl, rfl, rfl, rfl⟩ rfl rfl rfl rfl rfl (by kernel_rfl) Try.func4 (by kernel_rfl)
    (of_decide_eq_true (by kernel_rfl)) (by unfold Func.isWrapper; first | (rw [if_pos (by decide +kernel)]; kernel_rfl) | (rw [if_neg (by decide +kernel)]; exact ⟨rfl, rfl⟩))
    (fun os started H enc _ F => pduWrong_lifted os started H enc F)
end Go.Proofs.Ytmfcklgenkjbaaa
