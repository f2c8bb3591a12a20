/-
  No cell of these rows narrows 'for every input' (looked for: loops, veiled, ifaces, maps, wideKeys, modest, calm, conditions, laid).
  DERIVED. THE GIVEN ROWS OF THIS SEAT. 5 by the template 'for every input the law returns true; each argument reads behind the call as it read before'; 0 by the template 'total and deterministic' (their statements: YtmfcklgenkjbaaaTotals.lean).
  GIVEN WITH THE SEED: the statements are not yours to turn. If you find one false, say at which input.
  Laid BY PROGRAM, IN A SANDBOX (cutbox-rows.mjs): the forced cells as the released guide's own fill.sh prints them over the translation a4795370fb90dfbf… (all of the seat's roots in one cut). By AI agents, Wed Nov 11 2026. No macro, syntax, notation, axiom, sorry.
-/
import Derived.Test.YtmfcklgenkjbaaaChecked
import GoSem.Claim
import GoSem.ClaimJoined
import GoSem.ClaimMapViews
import Derived.JoinedTies
import Derived.KernelRfl
namespace Go.Proofs.Ytmfcklgenkjbaaa
/- THE CELL 'sum', in the pinned program and in every row, IS THE sha256 OF THE DUMP (.gsa) THAT YtmfcklgenkjbaaaProg.lean LOADS. Nothing in Lean hashes anything: it is a label: what it is worth is what the hold of that sum in a sandbox is worth. -/
noncomputable def Try.pinned : Pinned := { name := "ytmfcklgenkjbaaa", sum := "a4795370fb90dfbfa55724c29c978ac9369266091cd5654b4ef5854d61635a5d", checked := Try.checked }
namespace Rows
def none {H : Type} : Left H := { results := [], args := [] }

/-- 'watchkeeperlaw04.PduBack': WHATEVER THE INPUT: true; the input reads as it did. -/
def pduBackSpec : ChangeSpec := { name := "pduBack", fn := fun _ => fun
  | [d1, d2] => { results := [.lit (.bool true)], args := [d1, d2] }
  | _ => none }
def pduBackRow : OpenClaim := { program := "ytmfcklgenkjbaaa", sum := "a4795370fb90dfbfa55724c29c978ac9369266091cd5654b4ef5854d61635a5d", func := "watchkeeper/watchkeeperlaw04.PduBack", spec := "pduBack", unfollowed := true, recurses := true, apart := false }
def PduBackSaid : Prop := pduBackRow.holds Try.pinned (OpenSpec.ofChange pduBackSpec)

/-- ITS FALSE NEIGHBOUR: 'it returns false'. Refute it at one input. -/
def pduBackWrong : ChangeSpec := { name := "pduBack", fn := fun _ => fun
  | [d1, d2] => { results := [.lit (.bool false)], args := [d1, d2] }
  | _ => none }
def PduBackWrongFalsely : Prop := pduBackRow.holds Try.pinned (OpenSpec.ofChange pduBackWrong)

/-- 'watchkeeperlaw04.PduWrong': WHATEVER THE INPUT: true; the input reads as it did. -/
def pduWrongSpec : ChangeSpec := { name := "pduWrong", fn := fun _ => fun
  | [d1, d2, d3] => { results := [.lit (.bool true)], args := [d1, d2, d3] }
  | _ => none }
def pduWrongRow : OpenClaim := { program := "ytmfcklgenkjbaaa", sum := "a4795370fb90dfbfa55724c29c978ac9369266091cd5654b4ef5854d61635a5d", func := "watchkeeper/watchkeeperlaw04.PduWrong", spec := "pduWrong", unfollowed := true, recurses := true, apart := false }
def PduWrongSaid : Prop := pduWrongRow.holds Try.pinned (OpenSpec.ofChange pduWrongSpec)

/-- ITS FALSE NEIGHBOUR: 'it returns false'. Refute it at one input. -/
def pduWrongWrong : ChangeSpec := { name := "pduWrong", fn := fun _ => fun
  | [d1, d2, d3] => { results := [.lit (.bool false)], args := [d1, d2, d3] }
  | _ => none }
def PduWrongWrongFalsely : Prop := pduWrongRow.holds Try.pinned (OpenSpec.ofChange pduWrongWrong)

/-- 'watchkeeperlaw04.PduBits': WHATEVER THE INPUT: true; the input reads as it did. -/
def pduBitsSpec : ChangeSpec := { name := "pduBits", fn := fun _ => fun
  | [d1, d2] => { results := [.lit (.bool true)], args := [d1, d2] }
  | _ => none }
def pduBitsRow : OpenClaim := { program := "ytmfcklgenkjbaaa", sum := "a4795370fb90dfbfa55724c29c978ac9369266091cd5654b4ef5854d61635a5d", func := "watchkeeper/watchkeeperlaw04.PduBits", spec := "pduBits", unfollowed := true, recurses := true, apart := false }
def PduBitsSaid : Prop := pduBitsRow.holds Try.pinned (OpenSpec.ofChange pduBitsSpec)

/-- ITS FALSE NEIGHBOUR: 'it returns false'. Refute it at one input. -/
def pduBitsWrong : ChangeSpec := { name := "pduBits", fn := fun _ => fun
  | [d1, d2] => { results := [.lit (.bool false)], args := [d1, d2] }
  | _ => none }
def PduBitsWrongFalsely : Prop := pduBitsRow.holds Try.pinned (OpenSpec.ofChange pduBitsWrong)

/-- 'watchkeeperlaw04.PduBounds': WHATEVER THE INPUT: true; the input reads as it did. -/
def pduBoundsSpec : ChangeSpec := { name := "pduBounds", fn := fun _ => fun
  | [d1, d2, d3] => { results := [.lit (.bool true)], args := [d1, d2, d3] }
  | _ => none }
def pduBoundsRow : OpenClaim := { program := "ytmfcklgenkjbaaa", sum := "a4795370fb90dfbfa55724c29c978ac9369266091cd5654b4ef5854d61635a5d", func := "watchkeeper/watchkeeperlaw04.PduBounds", spec := "pduBounds", unfollowed := true, recurses := true, apart := false }
def PduBoundsSaid : Prop := pduBoundsRow.holds Try.pinned (OpenSpec.ofChange pduBoundsSpec)

/-- ITS FALSE NEIGHBOUR: 'it returns false'. Refute it at one input. -/
def pduBoundsWrong : ChangeSpec := { name := "pduBounds", fn := fun _ => fun
  | [d1, d2, d3] => { results := [.lit (.bool false)], args := [d1, d2, d3] }
  | _ => none }
def PduBoundsWrongFalsely : Prop := pduBoundsRow.holds Try.pinned (OpenSpec.ofChange pduBoundsWrong)

/-- 'watchkeeperlaw04.PduKinds': WHATEVER THE INPUT: true; the input reads as it did. -/
def pduKindsSpec : ChangeSpec := { name := "pduKinds", fn := fun _ => fun
  | [d] => { results := [.lit (.bool true)], args := [d] }
  | _ => none }
def pduKindsRow : OpenClaim := { program := "ytmfcklgenkjbaaa", sum := "a4795370fb90dfbfa55724c29c978ac9369266091cd5654b4ef5854d61635a5d", func := "watchkeeper/watchkeeperlaw04.PduKinds", spec := "pduKinds", unfollowed := true, recurses := true, apart := false }
def PduKindsSaid : Prop := pduKindsRow.holds Try.pinned (OpenSpec.ofChange pduKindsSpec)

/-- ITS FALSE NEIGHBOUR: 'it returns false'. Refute it at one input. -/
def pduKindsWrong : ChangeSpec := { name := "pduKinds", fn := fun _ => fun
  | [d] => { results := [.lit (.bool false)], args := [d] }
  | _ => none }
def PduKindsWrongFalsely : Prop := pduKindsRow.holds Try.pinned (OpenSpec.ofChange pduKindsWrong)

/- THE SECOND FORM. 'bulk': how many values and letters a reading holds, each counted each time it is reached (what is shared counts as often as it is met; a slice's spare places count too). A statement '..UptoSaid' is the law's where the arguments, and the package variables that the reading takes, are together of bulk at most 1048576: NARROWER than '..Said'. Prove '..Said' where nothing that the law and all that it calls make is longer than what came in: it says more and counts as full. Else prove '..UptoSaid'. A law counts once. -/
mutual
def uptoBulk {H : Type} : DataW H → Nat
  | .lit (.string bytes) => bytes.length + 1
  | .lit _ => 1
  | .nil => 1
  | .ptr d => uptoBulk d + 1
  | .slice elems spare => uptoBulkAll elems + uptoBulkAll spare + 1
  | .agg parts => uptoBulkAll parts + 1
  | .iface _ d => uptoBulk d + 1
  | .map entries => uptoBulkEntries entries + 1
  | .held _ => 1
def uptoBulkAll {H : Type} : List (DataW H) → Nat
  | [] => 0
  | d :: r => uptoBulk d + uptoBulkAll r
def uptoBulkEntries {H : Type} : List (Lit × DataW H) → Nat
  | [] => 0
  | x :: r => uptoBulkEntry x + uptoBulkEntries r
def uptoBulkEntry {H : Type} : Lit × DataW H → Nat
  | (.string bytes, d) => bytes.length + uptoBulk d + 1
  | (_, d) => uptoBulk d + 1
 end
def uptoSmall : (H : Type) → List (DataW H) → Bool := fun _ ds => decide (uptoBulkAll ds ≤ 1048576)
def OpenSpec.upto (s : _root_.Go.ChangeSpec) : _root_.Go.OpenSpec := { _root_.Go.OpenSpec.ofChange s with cond := some uptoSmall }

/-- 'watchkeeperlaw04.PduBack', WHERE WHAT IT READS IS OF BULK AT MOST 1048576: true; the input reads as it did. -/
def pduBackUptoRow : OpenClaim := { program := "ytmfcklgenkjbaaa", sum := "a4795370fb90dfbfa55724c29c978ac9369266091cd5654b4ef5854d61635a5d", func := "watchkeeper/watchkeeperlaw04.PduBack", spec := "pduBack", unfollowed := true, recurses := true, apart := false, narrowed := true }
def PduBackUptoSaid : Prop := pduBackUptoRow.holds Try.pinned (OpenSpec.upto pduBackSpec)

/-- 'watchkeeperlaw04.PduWrong', WHERE WHAT IT READS IS OF BULK AT MOST 1048576: true; the input reads as it did. -/
def pduWrongUptoRow : OpenClaim := { program := "ytmfcklgenkjbaaa", sum := "a4795370fb90dfbfa55724c29c978ac9369266091cd5654b4ef5854d61635a5d", func := "watchkeeper/watchkeeperlaw04.PduWrong", spec := "pduWrong", unfollowed := true, recurses := true, apart := false, narrowed := true }
def PduWrongUptoSaid : Prop := pduWrongUptoRow.holds Try.pinned (OpenSpec.upto pduWrongSpec)

/-- 'watchkeeperlaw04.PduBits', WHERE WHAT IT READS IS OF BULK AT MOST 1048576: true; the input reads as it did. -/
def pduBitsUptoRow : OpenClaim := { program := "ytmfcklgenkjbaaa", sum := "a4795370fb90dfbfa55724c29c978ac9369266091cd5654b4ef5854d61635a5d", func := "watchkeeper/watchkeeperlaw04.PduBits", spec := "pduBits", unfollowed := true, recurses := true, apart := false, narrowed := true }
def PduBitsUptoSaid : Prop := pduBitsUptoRow.holds Try.pinned (OpenSpec.upto pduBitsSpec)

/-- 'watchkeeperlaw04.PduBounds', WHERE WHAT IT READS IS OF BULK AT MOST 1048576: true; the input reads as it did. -/
def pduBoundsUptoRow : OpenClaim := { program := "ytmfcklgenkjbaaa", sum := "a4795370fb90dfbfa55724c29c978ac9369266091cd5654b4ef5854d61635a5d", func := "watchkeeper/watchkeeperlaw04.PduBounds", spec := "pduBounds", unfollowed := true, recurses := true, apart := false, narrowed := true }
def PduBoundsUptoSaid : Prop := pduBoundsUptoRow.holds Try.pinned (OpenSpec.upto pduBoundsSpec)

/-- 'watchkeeperlaw04.PduKinds', WHERE WHAT IT READS IS OF BULK AT MOST 1048576: true; the input reads as it did. -/
def pduKindsUptoRow : OpenClaim := { program := "ytmfcklgenkjbaaa", sum := "a4795370fb90dfbfa55724c29c978ac9369266091cd5654b4ef5854d61635a5d", func := "watchkeeper/watchkeeperlaw04.PduKinds", spec := "pduKinds", unfollowed := true, recurses := true, apart := false, narrowed := true }
def PduKindsUptoSaid : Prop := pduKindsUptoRow.holds Try.pinned (OpenSpec.upto pduKindsSpec)

end Rows
end Go.Proofs.Ytmfcklgenkjbaaa
