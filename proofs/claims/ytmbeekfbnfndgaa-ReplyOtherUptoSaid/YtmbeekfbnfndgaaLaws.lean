/-
  ReplyBack, ReplySizes and ReplyOther return true at every input, and leave their arguments as they were; where the arguments hold at most 1048576 values and letters (the rows' own bound).
-/
import Derived.Test.YtmbeekfbnfndgaaRows
import Derived.Test.YtmbeekfbnfndgaaRk
import Derived.Test.YtmbeekfbnfndgaaRm
import Derived.Test.YtmbeekfbnfndgaaPz
namespace Go.Proofs.Ytmbeekfbnfndgaa
open Go Go.Vs Go.Proofs Go.Wk.P04 Go.Wk.P05 Go.ChangeShapes Go.WideShapes Go.ChangeAt Go.RowKit
set_option linter.unusedSimpArgs false
set_option linter.unusedVariables false
set_option maxRecDepth 10000

theorem one_le {H : Type} (d : DataW H) : 1 ≤ Rows.uptoBulk d := by
  cases d with
  | lit l => cases l <;> simp [Rows.uptoBulk]
  | _ => simp [Rows.uptoBulk]
def bulk (H : Type) : Bulk H where
  one := Rows.uptoBulk
  all := Rows.uptoBulkAll
  slice := fun es rs => by simp only [Rows.uptoBulk]
  agg := fun ps => by simp only [Rows.uptoBulk]
  str := fun b => by simp only [Rows.uptoBulk]
  pos := one_le
  nil := by simp only [Rows.uptoBulkAll]
  cons := fun d r => by simp only [Rows.uptoBulkAll]
theorem bound {H : Type} {l : List (DataW H)} (hk : Rows.uptoSmall H l = true) : Rows.uptoBulkAll l ≤ 1048576 := of_decide_eq_true hk
theorem own : ownKnob Try.prog.godebug = none := by kernel_rfl
theorem hl : laidOutB Try.prog = true := by kernel_rfl
theorem hmr : mapsRowed Try.prog = true := by kernel_rfl
theorem hfull : ((List.range Try.prog.types.size).all fun t => match Try.prog.underlying t with | some (.slice e) => decide (0 < Try.prog.cellsOf e) | _ => true) = true := by kernel_rfl

theorem rep_arg {n : Nat} {vs : List AV} {H : AHeap} (h : CellsArg 1048576 [.int .i64, .row 44 [.int .u16]] n vs H) : ∃ p : Rp, RpOk p ∧ AV.agg vs = rpV p n ∧ H = [some (wO p.v)] := by
  obtain ⟨v1, H1, r1, K1, rfl, rfl, a1, h⟩ := cells_cons h
  obtain ⟨c, f1, e1, rfl⟩ := int_arg a1
  obtain ⟨s, f4, rfl, rfl⟩ := words_arg h
  injection e1 with e1
  subst e1
  exact ⟨⟨c, s⟩, ⟨wf_i64 f1, f4⟩, rfl, rfl⟩

theorem replyBackPs : pshs Try.prog Try.f3.params.toList = some [⟨true, [.int .i64, .int .i64, .int .i64, .row 44 [.int .u16], .int .i64]⟩, ⟨true, [.int .i64, .row 44 [.int .u16]]⟩, ⟨false, [.row 5 [.int .u8]]⟩] := by kernel_rfl
theorem replyBack_law : LawOk Try.prog Try.f3 1048576 := by
  intro ps hps args H ha
  obtain rfl := Option.some.inj (replyBackPs.symm.trans hps)
  simp only [ArgsSh] at ha
  obtain ⟨vs0, H0, as0, K0, a0, rfl, rfl, vs1, H1, as1, K1, a1, rfl, rfl, vs2, H2, as2, K2, a2, rfl, rfl, rfl, rfl⟩ := ha
  obtain ⟨q, hq, e1, rfl⟩ := req_arg a0
  obtain ⟨p, hp, e2, rfl⟩ := rep_arg a1
  obtain ⟨b, hb, rfl, rfl⟩ := bytes_arg a2
  simp only [oneV]
  rw [e1, e2]
  exact ⟨Γp, _, Γp_ok, rback_vc q p b hq hp hb⟩
theorem replyBack_contract (H : Type) (enc : TypeId × Value → H) (W : World) (base : Nat) (args : Array Value) (ds gs : List (DataW H)) (before : List MemPlace)
    (hval : ∀ (j : Nat) t v, Try.f3.params[j]? = some t → args[j]? = some v → Value.okWide Try.prog W .any base t v)
    (hW : DataW.Whole enc Try.prog Try.f3.params.toList Rows.replyBackSpec.vars false W args.toList ds gs before) (hk : Rows.uptoSmall H (ds ++ gs) = true) :
    Calls Try.prog 3 args W fun e W' => ∃ v, e = .returned v ∧ Rows.replyBackSpec.post enc Try.prog Try.f3 false true false false W args v W' :=
  law_contract (bulk H) hm Try.func3 replyBack_law replyBackPs hl hmr hfull (by kernel_rfl) (tb := 4) rfl Try.underlying4 rfl (fun ds hd => by
    match ds, hd with
    | [d1, d2, d3], _ => rfl) hval hW (bound hk)
set_option maxRecDepth 100000 in
theorem replyBack_lifted (os : Os) (started : os.Started) (H : Type) (enc : TypeId × Value → H) (F : Stop.Interp) :
    ReturnsInHanded {} Try.checked os 3 .any ((Rows.OpenSpec.upto Rows.replyBackSpec).pre6 enc Try.prog Try.f3 Rows.replyBackUptoRow.domain false) (((Rows.OpenSpec.upto Rows.replyBackSpec).at F).post enc Try.prog Try.f3 false true false false) := by
  refine returnsInHanded_of_cond (C := Try.checked) (s := Rows.OpenSpec.upto Rows.replyBackSpec) (k := Rows.uptoSmall) rfl own started (by kernel_rfl) Try.func3
    (OpenSpec.witness (enc := enc) (C := Try.checked) (s := Rows.OpenSpec.upto Rows.replyBackSpec) (k := Rows.uptoSmall) rfl false ⟨#[], #[.agg #[.int .i64 0, .int .i64 0, .int .i64 0, .slice none 0 0, .int .i64 0], .agg #[.int .i64 0, .slice none 0 0], .slice none 0 0], []⟩ 8 (by kernel_rfl) (by kernel_rfl) (by kernel_rfl)
      (x := ([.agg [.lit (.int .i64 0), .lit (.int .i64 0), .lit (.int .i64 0), .nil, .lit (.int .i64 0)], .agg [.lit (.int .i64 0), .nil], .nil], [], [])) (by kernel_rfl) rfl (by kernel_rfl)) ?_
  intro W base args ds gs before hval hW _ hk _
  exact replyBack_contract H enc W base args ds gs before hval hW hk
theorem replyBack_holds : Rows.ReplyBackUptoSaid :=
  OpenClaim.holds_of_cond 3 Try.f3 rfl rfl rfl rfl rfl rfl rfl ⟨rfl, rfl, rfl, rfl, rfl⟩ rfl rfl rfl rfl rfl (by kernel_rfl) Try.func3 (by kernel_rfl)
    (of_decide_eq_true (by kernel_rfl)) (by unfold Func.isWrapper; first | (rw [if_pos (by decide +kernel)]; kernel_rfl) | (rw [if_neg (by decide +kernel)]; exact ⟨rfl, rfl⟩))
    (fun os started H enc _ F => replyBack_lifted os started H enc F)

theorem replySizesPs : pshs Try.prog Try.f6.params.toList = some [⟨true, [.int .i64, .int .i64, .int .i64, .row 44 [.int .u16], .int .i64]⟩, ⟨true, [.int .i64, .row 44 [.int .u16]]⟩] := by kernel_rfl
theorem replySizes_law : LawOk Try.prog Try.f6 1048576 := by
  intro ps hps args H ha
  obtain rfl := Option.some.inj (replySizesPs.symm.trans hps)
  simp only [ArgsSh] at ha
  obtain ⟨vs0, H0, as0, K0, a0, rfl, rfl, vs1, H1, as1, K1, a1, rfl, rfl, rfl, rfl⟩ := ha
  obtain ⟨q, hq, e1, rfl⟩ := req_arg a0
  obtain ⟨p, hp, e2, rfl⟩ := rep_arg a1
  simp only [oneV]
  rw [e1, e2]
  exact ⟨Γp, _, Γp_ok, rsizes_vc q p hq hp⟩
theorem replySizes_contract (H : Type) (enc : TypeId × Value → H) (W : World) (base : Nat) (args : Array Value) (ds gs : List (DataW H)) (before : List MemPlace)
    (hval : ∀ (j : Nat) t v, Try.f6.params[j]? = some t → args[j]? = some v → Value.okWide Try.prog W .any base t v)
    (hW : DataW.Whole enc Try.prog Try.f6.params.toList Rows.replySizesSpec.vars false W args.toList ds gs before) (hk : Rows.uptoSmall H (ds ++ gs) = true) :
    Calls Try.prog 6 args W fun e W' => ∃ v, e = .returned v ∧ Rows.replySizesSpec.post enc Try.prog Try.f6 false true false false W args v W' :=
  law_contract (bulk H) hm Try.func6 replySizes_law replySizesPs hl hmr hfull (by kernel_rfl) (tb := 4) rfl Try.underlying4 rfl (fun ds hd => by
    match ds, hd with
    | [d1, d2], _ => rfl) hval hW (bound hk)
set_option maxRecDepth 100000 in
theorem replySizes_lifted (os : Os) (started : os.Started) (H : Type) (enc : TypeId × Value → H) (F : Stop.Interp) :
    ReturnsInHanded {} Try.checked os 6 .any ((Rows.OpenSpec.upto Rows.replySizesSpec).pre6 enc Try.prog Try.f6 Rows.replySizesUptoRow.domain false) (((Rows.OpenSpec.upto Rows.replySizesSpec).at F).post enc Try.prog Try.f6 false true false false) := by
  refine returnsInHanded_of_cond (C := Try.checked) (s := Rows.OpenSpec.upto Rows.replySizesSpec) (k := Rows.uptoSmall) rfl own started (by kernel_rfl) Try.func6
    (OpenSpec.witness (enc := enc) (C := Try.checked) (s := Rows.OpenSpec.upto Rows.replySizesSpec) (k := Rows.uptoSmall) rfl false ⟨#[], #[.agg #[.int .i64 0, .int .i64 0, .int .i64 0, .slice none 0 0, .int .i64 0], .agg #[.int .i64 0, .slice none 0 0]], []⟩ 8 (by kernel_rfl) (by kernel_rfl) (by kernel_rfl)
      (x := ([.agg [.lit (.int .i64 0), .lit (.int .i64 0), .lit (.int .i64 0), .nil, .lit (.int .i64 0)], .agg [.lit (.int .i64 0), .nil]], [], [])) (by kernel_rfl) rfl (by kernel_rfl)) ?_
  intro W base args ds gs before hval hW _ hk _
  exact replySizes_contract H enc W base args ds gs before hval hW hk
theorem replySizes_holds : Rows.ReplySizesUptoSaid :=
  OpenClaim.holds_of_cond 6 Try.f6 rfl rfl rfl rfl rfl rfl rfl ⟨rfl, rfl, rfl, rfl, rfl⟩ rfl rfl rfl rfl rfl (by kernel_rfl) Try.func6 (by kernel_rfl)
    (of_decide_eq_true (by kernel_rfl)) (by unfold Func.isWrapper; first | (rw [if_pos (by decide +kernel)]; kernel_rfl) | (rw [if_neg (by decide +kernel)]; exact ⟨rfl, rfl⟩))
    (fun os started H enc _ F => replySizes_lifted os started H enc F)

theorem replyOtherPs : pshs Try.prog Try.f4.params.toList = some [⟨true, [.int .i64, .int .i64, .int .i64, .row 44 [.int .u16], .int .i64]⟩, ⟨true, [.int .i64, .int .i64, .int .i64, .row 44 [.int .u16], .int .i64]⟩, ⟨true, [.int .i64, .row 44 [.int .u16]]⟩] := by kernel_rfl
theorem replyOther_law : LawOk Try.prog Try.f4 1048576 := by
  intro ps hps args H ha
  obtain rfl := Option.some.inj (replyOtherPs.symm.trans hps)
  simp only [ArgsSh] at ha
  obtain ⟨vs0, H0, as0, K0, a0, rfl, rfl, vs1, H1, as1, K1, a1, rfl, rfl, vs2, H2, as2, K2, a2, rfl, rfl, rfl, rfl⟩ := ha
  obtain ⟨q, hq, e1, rfl⟩ := req_arg a0
  obtain ⟨r, hr, e3, rfl⟩ := req_arg a1
  obtain ⟨p, hp, e2, rfl⟩ := rep_arg a2
  simp only [oneV]
  rw [e1, e2, e3]
  exact ⟨Γr, _, Γr_ok, rother_vc q r p hq hr hp⟩
theorem replyOther_contract (H : Type) (enc : TypeId × Value → H) (W : World) (base : Nat) (args : Array Value) (ds gs : List (DataW H)) (before : List MemPlace)
    (hval : ∀ (j : Nat) t v, Try.f4.params[j]? = some t → args[j]? = some v → Value.okWide Try.prog W .any base t v)
    (hW : DataW.Whole enc Try.prog Try.f4.params.toList Rows.replyOtherSpec.vars false W args.toList ds gs before) (hk : Rows.uptoSmall H (ds ++ gs) = true) :
    Calls Try.prog 4 args W fun e W' => ∃ v, e = .returned v ∧ Rows.replyOtherSpec.post enc Try.prog Try.f4 false true false false W args v W' :=
  law_contract (bulk H) hm Try.func4 replyOther_law replyOtherPs hl hmr hfull (by kernel_rfl) (tb := 4) rfl Try.underlying4 rfl (fun ds hd => by
    match ds, hd with
    | [d1, d2, d3], _ => rfl) hval hW (bound hk)
set_option maxRecDepth 100000 in
theorem replyOther_lifted (os : Os) (started : os.Started) (H : Type) (enc : TypeId × Value → H) (F : Stop.Interp) :
    ReturnsInHanded {} Try.checked os 4 .any ((Rows.OpenSpec.upto Rows.replyOtherSpec).pre6 enc Try.prog Try.f4 Rows.replyOtherUptoRow.domain false) (((Rows.OpenSpec.upto Rows.replyOtherSpec).at F).post enc Try.prog Try.f4 false true false false) := by
  refine returnsInHanded_of_cond (C := Try.checked) (s := Rows.OpenSpec.upto Rows.replyOtherSpec) (k := Rows.uptoSmall) rfl own started (by kernel_rfl) Try.func4
    (OpenSpec.witness (enc := enc) (C := Try.checked) (s := Rows.OpenSpec.upto Rows.replyOtherSpec) (k := Rows.uptoSmall) rfl false ⟨#[], #[.agg #[.int .i64 0, .int .i64 0, .int .i64 0, .slice none 0 0, .int .i64 0], .agg #[.int .i64 0, .int .i64 0, .int .i64 0, .slice none 0 0, .int .i64 0], .agg #[.int .i64 0, .slice none 0 0]], []⟩ 8 (by kernel_rfl) (by kernel_rfl) (by kernel_rfl)
      (x := ([.agg [.lit (.int .i64 0), .lit (.int .i64 0), .lit (.int .i64 0), .nil, .lit (.int .i64 0)], .agg [.lit (.int .i64 0), .lit (.int .i64 0), .lit (.int .i64 0), .nil, .lit (.int .i64 0)], .agg [.lit (.int .i64 0), .nil]], [], [])) (by kernel_rfl) rfl (by kernel_rfl)) ?_
  intro W base args ds gs before hval hW _ hk _
  exact replyOther_contract H enc W base args ds gs before hval hW hk
theorem replyOther_holds : Rows.ReplyOtherUptoSaid :=
  OpenClaim.holds_of_cond 4 Try.f4 rfl rfl rfl rfl rfl rfl rfl ⟨rfl, rfl, rfl, rfl, rfl⟩ rfl rfl rfl rfl rfl (by kernel_rfl) Try.func4 (by kernel_rfl)
    (of_decide_eq_true (by kernel_rfl)) (by unfold Func.isWrapper; first | (rw [if_pos (by decide +kernel)]; kernel_rfl) | (rw [if_neg (by decide +kernel)]; exact ⟨rfl, rfl⟩))
    (fun os started H enc _ F => replyOther_lifted os started H enc F)

end Go.Proofs.Ytmbeekfbnfndgaa
