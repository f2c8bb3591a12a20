/-
  ReplyAlarms returns true at every input, and leaves its arguments as they were; where the arguments hold at most 1048576 values and letters (the rows' own bound).
-/
import Derived.Test.YtmbeekfbnfndgaaRows
import Derived.Test.YtmbeekfbnfndgaaRp
import Derived.Test.YtmbeekfbnfndgaaPz
namespace Go.Proofs.Ytmbeekfbnfndgaa
open Go Go.Vs Go.Proofs Go.Wk.P04 Go.Wk.P05 Go.ChangeShapes Go.WideShapes Go.ChangeAt Go.RowKit
set_option linter.unusedSimpArgs false
set_option linter.unusedVariables false
set_option maxRecDepth 10000

theorem one_le {H : Type} (d : DataW H) : 1 ≤ Rows.uptoBulk d := by
  cases d with
  | lit l => cases l <;> simp [Rows.uptoBulk]
  | _ => simp [Rows.uptoBulk]
def bulk (H : Type) : Bulk H where
  one := Rows.uptoBulk
  all := Rows.uptoBulkAll
  slice := fun es rs => by simp only [Rows.uptoBulk]
  agg := fun ps => by simp only [Rows.uptoBulk]
  str := fun b => by simp only [Rows.uptoBulk]
  pos := one_le
  nil := by simp only [Rows.uptoBulkAll]
  cons := fun d r => by simp only [Rows.uptoBulkAll]
theorem bound {H : Type} {l : List (DataW H)} (hk : Rows.uptoSmall H l = true) : Rows.uptoBulkAll l ≤ 1048576 := of_decide_eq_true hk
theorem own : ownKnob Try.prog.godebug = none := by kernel_rfl
theorem hl : laidOutB Try.prog = true := by kernel_rfl
theorem hmr : mapsRowed Try.prog = true := by kernel_rfl
theorem hfull : ((List.range Try.prog.types.size).all fun t => match Try.prog.underlying t with | some (.slice e) => decide (0 < Try.prog.cellsOf e) | _ => true) = true := by kernel_rfl

theorem replyAlarmsPs : pshs Try.prog Try.f5.params.toList = some [⟨true, [.int .i64, .int .i64, .int .i64, .row 44 [.int .u16], .int .i64]⟩, ⟨false, [.int .u8]⟩] := by kernel_rfl
theorem replyAlarms_law : LawOk Try.prog Try.f5 1048576 := by
  intro ps hps args H ha
  obtain rfl := Option.some.inj (replyAlarmsPs.symm.trans hps)
  simp only [ArgsSh] at ha
  obtain ⟨vs0, H0, as0, K0, a0, rfl, rfl, vs1, H1, as1, K1, a1, rfl, rfl, rfl, rfl⟩ := ha
  obtain ⟨q, hq, e1, rfl⟩ := req_arg a0
  obtain ⟨c, hc, rfl, rfl⟩ := int_arg a1
  simp only [oneV]
  rw [e1]
  exact ⟨Γv, _, Γv_ok, ralarms_vc q c hq (wf_u8 hc)⟩
theorem replyAlarms_contract (H : Type) (enc : TypeId × Value → H) (W : World) (base : Nat) (args : Array Value) (ds gs : List (DataW H)) (before : List MemPlace)
    (hval : ∀ (j : Nat) t v, Try.f5.params[j]? = some t → args[j]? = some v → Value.okWide Try.prog W .any base t v)
    (hW : DataW.Whole enc Try.prog Try.f5.params.toList Rows.replyAlarmsSpec.vars false W args.toList ds gs before) (hk : Rows.uptoSmall H (ds ++ gs) = true) :
    Calls Try.prog 5 args W fun e W' => ∃ v, e = .returned v ∧ Rows.replyAlarmsSpec.post enc Try.prog Try.f5 false true false false W args v W' :=
  law_contract (bulk H) hm Try.func5 replyAlarms_law replyAlarmsPs hl hmr hfull (by kernel_rfl) (tb := 4) rfl Try.underlying4 rfl (fun ds hd => by
    match ds, hd with
    | [d1, d2], _ => rfl) hval hW (bound hk)
set_option maxRecDepth 100000 in
theorem replyAlarms_lifted (os : Os) (started : os.Started) (H : Type) (enc : TypeId × Value → H) (F : Stop.Interp) :
    ReturnsInHanded {} Try.checked os 5 .any ((Rows.OpenSpec.upto Rows.replyAlarmsSpec).pre6 enc Try.prog Try.f5 Rows.replyAlarmsUptoRow.domain false) (((Rows.OpenSpec.upto Rows.replyAlarmsSpec).at F).post enc Try.prog Try.f5 false true false false) := by
  refine returnsInHanded_of_cond (C := Try.checked) (s := Rows.OpenSpec.upto Rows.replyAlarmsSpec) (k := Rows.uptoSmall) rfl own started (by kernel_rfl) Try.func5
    (OpenSpec.witness (enc := enc) (C := Try.checked) (s := Rows.OpenSpec.upto Rows.replyAlarmsSpec) (k := Rows.uptoSmall) rfl false ⟨#[], #[.agg #[.int .i64 0, .int .i64 0, .int .i64 0, .slice none 0 0, .int .i64 0], .int .u8 0], []⟩ 8 (by kernel_rfl) (by kernel_rfl) (by kernel_rfl)
      (x := ([.agg [.lit (.int .i64 0), .lit (.int .i64 0), .lit (.int .i64 0), .nil, .lit (.int .i64 0)], .lit (.int .u8 0)], [], [])) (by kernel_rfl) rfl (by kernel_rfl)) ?_
  intro W base args ds gs before hval hW _ hk _
  exact replyAlarms_contract H enc W base args ds gs before hval hW hk
theorem replyAlarms_holds : Rows.ReplyAlarmsUptoSaid :=
  OpenClaim.holds_of_cond 5 Try.f5 rfl rfl rfl rfl rfl rfl rfl ⟨rfl, rfl, rfl, rfl, rfl⟩ rfl rfl rfl rfl rfl (by kernel_rfl) Try.func5 (by kernel_rfl)
    (of_decide_eq_true (by kernel_rfl)) (by unfold Func.isWrapper; first | (rw [if_pos (by decide +kernel)]; kernel_rfl) | (rw [if_neg (by decide +kernel)]; exact ⟨rfl, rfl⟩))
    (fun os started H enc _ F => replyAlarms_lifted os started H enc F)
end Go.Proofs.Ytmbeekfbnfndgaa
