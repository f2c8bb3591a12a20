/-
  No cell of these rows narrows 'for every input' (looked for: loops, veiled, ifaces, maps, wideKeys, modest, calm, conditions, laid).
  DERIVED. THE GIVEN ROWS OF THIS SEAT. 4 by the template 'for every input the law returns true; each argument reads behind the call as it read before'; 0 by the template 'total and deterministic' (their statements: YtmbeekfbnfndgaaTotals.lean).
  GIVEN WITH THE SEED: the statements are not yours to turn. If you find one false, say at which input.
  Laid BY PROGRAM, IN A SANDBOX (cutbox-rows.mjs): the forced cells as the released guide's own fill.sh prints them over the translation 6627d3d4671ab507… (all of the seat's roots in one cut). By AI agents, Wed Nov 11 2026. No macro, syntax, notation, axiom, sorry.
-/
import Derived.Test.YtmbeekfbnfndgaaChecked
import GoSem.Claim
import GoSem.ClaimJoined
import GoSem.ClaimMapViews
import Derived.JoinedTies
import Derived.KernelRfl
namespace Go.Proofs.Ytmbeekfbnfndgaa
/- THE CELL 'sum', in the pinned program and in every row, IS THE sha256 OF THE DUMP (.gsa) THAT YtmbeekfbnfndgaaProg.lean LOADS. Nothing in Lean hashes anything: it is a label: what it is worth is what the hold of that sum in a sandbox is worth. -/
noncomputable def Try.pinned : Pinned := { name := "ytmbeekfbnfndgaa", sum := "6627d3d4671ab5078901c785a9cb696ea7e87a74a752b57a06cd4c0e0687e7a3", checked := Try.checked }
namespace Rows
def none {H : Type} : Left H := { results := [], args := [] }

/-- 'watchkeeperlaw05.ReplyBack': WHATEVER THE INPUT: true; the input reads as it did. -/
def replyBackSpec : ChangeSpec := { name := "replyBack", fn := fun _ => fun
  | [d1, d2, d3] => { results := [.lit (.bool true)], args := [d1, d2, d3] }
  | _ => none }
def replyBackRow : OpenClaim := { program := "ytmbeekfbnfndgaa", sum := "6627d3d4671ab5078901c785a9cb696ea7e87a74a752b57a06cd4c0e0687e7a3", func := "watchkeeper/watchkeeperlaw05.ReplyBack", spec := "replyBack", unfollowed := true, recurses := true, apart := false }
def ReplyBackSaid : Prop := replyBackRow.holds Try.pinned (OpenSpec.ofChange replyBackSpec)

/-- ITS FALSE NEIGHBOUR: 'it returns false'. Refute it at one input. -/
def replyBackWrong : ChangeSpec := { name := "replyBack", fn := fun _ => fun
  | [d1, d2, d3] => { results := [.lit (.bool false)], args := [d1, d2, d3] }
  | _ => none }
def ReplyBackWrongFalsely : Prop := replyBackRow.holds Try.pinned (OpenSpec.ofChange replyBackWrong)

/-- 'watchkeeperlaw05.ReplyOther': WHATEVER THE INPUT: true; the input reads as it did. -/
def replyOtherSpec : ChangeSpec := { name := "replyOther", fn := fun _ => fun
  | [d1, d2, d3] => { results := [.lit (.bool true)], args := [d1, d2, d3] }
  | _ => none }
def replyOtherRow : OpenClaim := { program := "ytmbeekfbnfndgaa", sum := "6627d3d4671ab5078901c785a9cb696ea7e87a74a752b57a06cd4c0e0687e7a3", func := "watchkeeper/watchkeeperlaw05.ReplyOther", spec := "replyOther", unfollowed := true, recurses := true, apart := false }
def ReplyOtherSaid : Prop := replyOtherRow.holds Try.pinned (OpenSpec.ofChange replyOtherSpec)

/-- ITS FALSE NEIGHBOUR: 'it returns false'. Refute it at one input. -/
def replyOtherWrong : ChangeSpec := { name := "replyOther", fn := fun _ => fun
  | [d1, d2, d3] => { results := [.lit (.bool false)], args := [d1, d2, d3] }
  | _ => none }
def ReplyOtherWrongFalsely : Prop := replyOtherRow.holds Try.pinned (OpenSpec.ofChange replyOtherWrong)

/-- 'watchkeeperlaw05.ReplyAlarms': WHATEVER THE INPUT: true; the input reads as it did. -/
def replyAlarmsSpec : ChangeSpec := { name := "replyAlarms", fn := fun _ => fun
  | [d1, d2] => { results := [.lit (.bool true)], args := [d1, d2] }
  | _ => none }
def replyAlarmsRow : OpenClaim := { program := "ytmbeekfbnfndgaa", sum := "6627d3d4671ab5078901c785a9cb696ea7e87a74a752b57a06cd4c0e0687e7a3", func := "watchkeeper/watchkeeperlaw05.ReplyAlarms", spec := "replyAlarms", unfollowed := true, recurses := true, apart := false }
def ReplyAlarmsSaid : Prop := replyAlarmsRow.holds Try.pinned (OpenSpec.ofChange replyAlarmsSpec)

/-- ITS FALSE NEIGHBOUR: 'it returns false'. Refute it at one input. -/
def replyAlarmsWrong : ChangeSpec := { name := "replyAlarms", fn := fun _ => fun
  | [d1, d2] => { results := [.lit (.bool false)], args := [d1, d2] }
  | _ => none }
def ReplyAlarmsWrongFalsely : Prop := replyAlarmsRow.holds Try.pinned (OpenSpec.ofChange replyAlarmsWrong)

/-- 'watchkeeperlaw05.ReplySizes': WHATEVER THE INPUT: true; the input reads as it did. -/
def replySizesSpec : ChangeSpec := { name := "replySizes", fn := fun _ => fun
  | [d1, d2] => { results := [.lit (.bool true)], args := [d1, d2] }
  | _ => none }
def replySizesRow : OpenClaim := { program := "ytmbeekfbnfndgaa", sum := "6627d3d4671ab5078901c785a9cb696ea7e87a74a752b57a06cd4c0e0687e7a3", func := "watchkeeper/watchkeeperlaw05.ReplySizes", spec := "replySizes", unfollowed := true, recurses := true, apart := false }
def ReplySizesSaid : Prop := replySizesRow.holds Try.pinned (OpenSpec.ofChange replySizesSpec)

/-- ITS FALSE NEIGHBOUR: 'it returns false'. Refute it at one input. -/
def replySizesWrong : ChangeSpec := { name := "replySizes", fn := fun _ => fun
  | [d1, d2] => { results := [.lit (.bool false)], args := [d1, d2] }
  | _ => none }
def ReplySizesWrongFalsely : Prop := replySizesRow.holds Try.pinned (OpenSpec.ofChange replySizesWrong)

/- THE SECOND FORM. 'bulk': how many values and letters a reading holds, each counted each time it is reached (what is shared counts as often as it is met; a slice's spare places count too). A statement '..UptoSaid' is the law's where the arguments, and the package variables that the reading takes, are together of bulk at most 1048576: NARROWER than '..Said'. Prove '..Said' where nothing that the law and all that it calls make is longer than what came in: it says more and counts as full. Else prove '..UptoSaid'. A law counts once. -/
mutual
def uptoBulk {H : Type} : DataW H → Nat
  | .lit (.string bytes) => bytes.length + 1
  | .lit _ => 1
  | .nil => 1
  | .ptr d => uptoBulk d + 1
  | .slice elems spare => uptoBulkAll elems + uptoBulkAll spare + 1
  | .agg parts => uptoBulkAll parts + 1
  | .iface _ d => uptoBulk d + 1
  | .map entries => uptoBulkEntries entries + 1
  | .held _ => 1
def uptoBulkAll {H : Type} : List (DataW H) → Nat
  | [] => 0
  | d :: r => uptoBulk d + uptoBulkAll r
def uptoBulkEntries {H : Type} : List (Lit × DataW H) → Nat
  | [] => 0
  | x :: r => uptoBulkEntry x + uptoBulkEntries r
def uptoBulkEntry {H : Type} : Lit × DataW H → Nat
  | (.string bytes, d) => bytes.length + uptoBulk d + 1
  | (_, d) => uptoBulk d + 1
 end
def uptoSmall : (H : Type) → List (DataW H) → Bool := fun _ ds => decide (uptoBulkAll ds ≤ 1048576)
def OpenSpec.upto (s : _root_.Go.ChangeSpec) : _root_.Go.OpenSpec := { _root_.Go.OpenSpec.ofChange s with cond := some uptoSmall }

/-- 'watchkeeperlaw05.ReplyBack', WHERE WHAT IT READS IS OF BULK AT MOST 1048576: true; the input reads as it did. -/
def replyBackUptoRow : OpenClaim := { program := "ytmbeekfbnfndgaa", sum := "6627d3d4671ab5078901c785a9cb696ea7e87a74a752b57a06cd4c0e0687e7a3", func := "watchkeeper/watchkeeperlaw05.ReplyBack", spec := "replyBack", unfollowed := true, recurses := true, apart := false, narrowed := true }
def ReplyBackUptoSaid : Prop := replyBackUptoRow.holds Try.pinned (OpenSpec.upto replyBackSpec)

/-- 'watchkeeperlaw05.ReplyOther', WHERE WHAT IT READS IS OF BULK AT MOST 1048576: true; the input reads as it did. -/
def replyOtherUptoRow : OpenClaim := { program := "ytmbeekfbnfndgaa", sum := "6627d3d4671ab5078901c785a9cb696ea7e87a74a752b57a06cd4c0e0687e7a3", func := "watchkeeper/watchkeeperlaw05.ReplyOther", spec := "replyOther", unfollowed := true, recurses := true, apart := false, narrowed := true }
def ReplyOtherUptoSaid : Prop := replyOtherUptoRow.holds Try.pinned (OpenSpec.upto replyOtherSpec)

/-- 'watchkeeperlaw05.ReplyAlarms', WHERE WHAT IT READS IS OF BULK AT MOST 1048576: true; the input reads as it did. -/
def replyAlarmsUptoRow : OpenClaim := { program := "ytmbeekfbnfndgaa", sum := "6627d3d4671ab5078901c785a9cb696ea7e87a74a752b57a06cd4c0e0687e7a3", func := "watchkeeper/watchkeeperlaw05.ReplyAlarms", spec := "replyAlarms", unfollowed := true, recurses := true, apart := false, narrowed := true }
def ReplyAlarmsUptoSaid : Prop := replyAlarmsUptoRow.holds Try.pinned (OpenSpec.upto replyAlarmsSpec)

/-- 'watchkeeperlaw05.ReplySizes', WHERE WHAT IT READS IS OF BULK AT MOST 1048576: true; the input reads as it did. -/
def replySizesUptoRow : OpenClaim := { program := "ytmbeekfbnfndgaa", sum := "6627d3d4671ab5078901c785a9cb696ea7e87a74a752b57a06cd4c0e0687e7a3", func := "watchkeeper/watchkeeperlaw05.ReplySizes", spec := "replySizes", unfollowed := true, recurses := true, apart := false, narrowed := true }
def ReplySizesUptoSaid : Prop := replySizesUptoRow.holds Try.pinned (OpenSpec.upto replySizesSpec)

end Rows
end Go.Proofs.Ytmbeekfbnfndgaa
