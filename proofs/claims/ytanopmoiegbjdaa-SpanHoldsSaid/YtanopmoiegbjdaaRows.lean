/-
  No cell of these rows narrows 'for every input' (looked for: loops, veiled, ifaces, maps, wideKeys, modest, calm, conditions, laid).
  DERIVED. THE GIVEN ROWS OF THIS SEAT. 8 by the template 'for every input the law returns true; each argument reads behind the call as it read before'; 0 by the template 'total and deterministic' (their statements: YtanopmoiegbjdaaTotals.lean).
  GIVEN WITH THE SEED: the statements are not yours to turn. If you find one false, say at which input.
  Laid BY PROGRAM, IN A SANDBOX (cutbox-rows.mjs): the forced cells as the released guide's own fill.sh prints them over the translation 1227607c8520a9d2… (all of the seat's roots in one cut). By AI agents, Wed Nov 11 2026. No macro, syntax, notation, axiom, sorry.
-/
import Derived.Test.YtanopmoiegbjdaaChecked
import GoSem.Claim
import GoSem.ClaimJoined
import GoSem.ClaimMapViews
import Derived.JoinedTies
import Derived.KernelRfl
namespace Go.Proofs.Ytanopmoiegbjdaa
/- THE CELL 'sum', in the pinned program and in every row, IS THE sha256 OF THE DUMP (.gsa) THAT YtanopmoiegbjdaaProg.lean LOADS. Nothing in Lean hashes anything: it is a label: what it is worth is what the hold of that sum in a sandbox is worth. -/
noncomputable def Try.pinned : Pinned := { name := "ytanopmoiegbjdaa", sum := "1227607c8520a9d29669d8712558b1a57ddef9c5591bad06dbbe2582e7ca664c", checked := Try.checked }
namespace Rows
def none {H : Type} : Left H := { results := [], args := [] }

/-- 'swingbridgelaw08.SpanDoes': WHATEVER THE INPUT: true; the input reads as it did. -/
def spanDoesSpec : ChangeSpec := { name := "spanDoes", fn := fun _ => fun
  | [d1, d2, d3] => { results := [.lit (.bool true)], args := [d1, d2, d3] }
  | _ => none }
def spanDoesRow : OpenClaim := { program := "ytanopmoiegbjdaa", sum := "1227607c8520a9d29669d8712558b1a57ddef9c5591bad06dbbe2582e7ca664c", func := "swingbridge/swingbridgelaw08.SpanDoes", spec := "spanDoes", inPlace := ["math/bits.Add64"], unfollowed := true, recurses := true, apart := false }
def SpanDoesSaid : Prop := spanDoesRow.holds Try.pinned (OpenSpec.ofChange spanDoesSpec)

/-- ITS FALSE NEIGHBOUR: 'it returns false'. Refute it at one input. -/
def spanDoesWrong : ChangeSpec := { name := "spanDoes", fn := fun _ => fun
  | [d1, d2, d3] => { results := [.lit (.bool false)], args := [d1, d2, d3] }
  | _ => none }
def SpanDoesWrongFalsely : Prop := spanDoesRow.holds Try.pinned (OpenSpec.ofChange spanDoesWrong)

/-- 'swingbridgelaw08.SpanHolds': WHATEVER THE INPUT: true; the input reads as it did. -/
def spanHoldsSpec : ChangeSpec := { name := "spanHolds", fn := fun _ => fun
  | [d1, d2, d3, d4, d5] => { results := [.lit (.bool true)], args := [d1, d2, d3, d4, d5] }
  | _ => none }
def spanHoldsRow : OpenClaim := { program := "ytanopmoiegbjdaa", sum := "1227607c8520a9d29669d8712558b1a57ddef9c5591bad06dbbe2582e7ca664c", func := "swingbridge/swingbridgelaw08.SpanHolds", spec := "spanHolds", inPlace := ["math/bits.Add64"], unfollowed := true, recurses := true, apart := false }
def SpanHoldsSaid : Prop := spanHoldsRow.holds Try.pinned (OpenSpec.ofChange spanHoldsSpec)

/-- ITS FALSE NEIGHBOUR: 'it returns false'. Refute it at one input. -/
def spanHoldsWrong : ChangeSpec := { name := "spanHolds", fn := fun _ => fun
  | [d1, d2, d3, d4, d5] => { results := [.lit (.bool false)], args := [d1, d2, d3, d4, d5] }
  | _ => none }
def SpanHoldsWrongFalsely : Prop := spanHoldsRow.holds Try.pinned (OpenSpec.ofChange spanHoldsWrong)

/-- 'swingbridgelaw08.SpanWhere': WHATEVER THE INPUT: true; the input reads as it did. -/
def spanWhereSpec : ChangeSpec := { name := "spanWhere", fn := fun _ => fun
  | [d1, d2, d3] => { results := [.lit (.bool true)], args := [d1, d2, d3] }
  | _ => none }
def spanWhereRow : OpenClaim := { program := "ytanopmoiegbjdaa", sum := "1227607c8520a9d29669d8712558b1a57ddef9c5591bad06dbbe2582e7ca664c", func := "swingbridge/swingbridgelaw08.SpanWhere", spec := "spanWhere", inPlace := ["math/bits.Add64"], unfollowed := true, recurses := true, apart := false }
def SpanWhereSaid : Prop := spanWhereRow.holds Try.pinned (OpenSpec.ofChange spanWhereSpec)

/-- ITS FALSE NEIGHBOUR: 'it returns false'. Refute it at one input. -/
def spanWhereWrong : ChangeSpec := { name := "spanWhere", fn := fun _ => fun
  | [d1, d2, d3] => { results := [.lit (.bool false)], args := [d1, d2, d3] }
  | _ => none }
def SpanWhereWrongFalsely : Prop := spanWhereRow.holds Try.pinned (OpenSpec.ofChange spanWhereWrong)

/-- 'swingbridgelaw08.SpanJoins': WHATEVER THE INPUT: true; the input reads as it did. -/
def spanJoinsSpec : ChangeSpec := { name := "spanJoins", fn := fun _ => fun
  | [d1, d2] => { results := [.lit (.bool true)], args := [d1, d2] }
  | _ => none }
def spanJoinsRow : OpenClaim := { program := "ytanopmoiegbjdaa", sum := "1227607c8520a9d29669d8712558b1a57ddef9c5591bad06dbbe2582e7ca664c", func := "swingbridge/swingbridgelaw08.SpanJoins", spec := "spanJoins", inPlace := ["math/bits.Add64"], unfollowed := true, recurses := true, apart := false }
def SpanJoinsSaid : Prop := spanJoinsRow.holds Try.pinned (OpenSpec.ofChange spanJoinsSpec)

/-- ITS FALSE NEIGHBOUR: 'it returns false'. Refute it at one input. -/
def spanJoinsWrong : ChangeSpec := { name := "spanJoins", fn := fun _ => fun
  | [d1, d2] => { results := [.lit (.bool false)], args := [d1, d2] }
  | _ => none }
def SpanJoinsWrongFalsely : Prop := spanJoinsRow.holds Try.pinned (OpenSpec.ofChange spanJoinsWrong)

/-- 'swingbridgelaw08.SpanWider': WHATEVER THE INPUT: true; the input reads as it did. -/
def spanWiderSpec : ChangeSpec := { name := "spanWider", fn := fun _ => fun
  | [d1, d2, d3, d4] => { results := [.lit (.bool true)], args := [d1, d2, d3, d4] }
  | _ => none }
def spanWiderRow : OpenClaim := { program := "ytanopmoiegbjdaa", sum := "1227607c8520a9d29669d8712558b1a57ddef9c5591bad06dbbe2582e7ca664c", func := "swingbridge/swingbridgelaw08.SpanWider", spec := "spanWider", inPlace := ["math/bits.Add64"], unfollowed := true, recurses := true, apart := false }
def SpanWiderSaid : Prop := spanWiderRow.holds Try.pinned (OpenSpec.ofChange spanWiderSpec)

/-- ITS FALSE NEIGHBOUR: 'it returns false'. Refute it at one input. -/
def spanWiderWrong : ChangeSpec := { name := "spanWider", fn := fun _ => fun
  | [d1, d2, d3, d4] => { results := [.lit (.bool false)], args := [d1, d2, d3, d4] }
  | _ => none }
def SpanWiderWrongFalsely : Prop := spanWiderRow.holds Try.pinned (OpenSpec.ofChange spanWiderWrong)

/-- 'swingbridgelaw08.SpanMeets': WHATEVER THE INPUT: true; the input reads as it did. -/
def spanMeetsSpec : ChangeSpec := { name := "spanMeets", fn := fun _ => fun
  | [d1, d2] => { results := [.lit (.bool true)], args := [d1, d2] }
  | _ => none }
def spanMeetsRow : OpenClaim := { program := "ytanopmoiegbjdaa", sum := "1227607c8520a9d29669d8712558b1a57ddef9c5591bad06dbbe2582e7ca664c", func := "swingbridge/swingbridgelaw08.SpanMeets", spec := "spanMeets", inPlace := ["math/bits.Add64"], unfollowed := true, recurses := true, apart := false }
def SpanMeetsSaid : Prop := spanMeetsRow.holds Try.pinned (OpenSpec.ofChange spanMeetsSpec)

/-- ITS FALSE NEIGHBOUR: 'it returns false'. Refute it at one input. -/
def spanMeetsWrong : ChangeSpec := { name := "spanMeets", fn := fun _ => fun
  | [d1, d2] => { results := [.lit (.bool false)], args := [d1, d2] }
  | _ => none }
def SpanMeetsWrongFalsely : Prop := spanMeetsRow.holds Try.pinned (OpenSpec.ofChange spanMeetsWrong)

/-- 'swingbridgelaw08.SpanLeaves': WHATEVER THE INPUT: true; the input reads as it did. -/
def spanLeavesSpec : ChangeSpec := { name := "spanLeaves", fn := fun _ => fun
  | [d1, d2, d3, d4] => { results := [.lit (.bool true)], args := [d1, d2, d3, d4] }
  | _ => none }
def spanLeavesRow : OpenClaim := { program := "ytanopmoiegbjdaa", sum := "1227607c8520a9d29669d8712558b1a57ddef9c5591bad06dbbe2582e7ca664c", func := "swingbridge/swingbridgelaw08.SpanLeaves", spec := "spanLeaves", inPlace := ["math/bits.Add64"], unfollowed := true, recurses := true, apart := false }
def SpanLeavesSaid : Prop := spanLeavesRow.holds Try.pinned (OpenSpec.ofChange spanLeavesSpec)

/-- ITS FALSE NEIGHBOUR: 'it returns false'. Refute it at one input. -/
def spanLeavesWrong : ChangeSpec := { name := "spanLeaves", fn := fun _ => fun
  | [d1, d2, d3, d4] => { results := [.lit (.bool false)], args := [d1, d2, d3, d4] }
  | _ => none }
def SpanLeavesWrongFalsely : Prop := spanLeavesRow.holds Try.pinned (OpenSpec.ofChange spanLeavesWrong)

/-- 'swingbridgelaw08.SpanOnes': WHATEVER THE INPUT: true; the input reads as it did. -/
def spanOnesSpec : ChangeSpec := { name := "spanOnes", fn := fun _ => fun
  | [d1, d2, d3, d4] => { results := [.lit (.bool true)], args := [d1, d2, d3, d4] }
  | _ => none }
def spanOnesRow : OpenClaim := { program := "ytanopmoiegbjdaa", sum := "1227607c8520a9d29669d8712558b1a57ddef9c5591bad06dbbe2582e7ca664c", func := "swingbridge/swingbridgelaw08.SpanOnes", spec := "spanOnes", inPlace := ["math/bits.Add64"], unfollowed := true, recurses := true, apart := false }
def SpanOnesSaid : Prop := spanOnesRow.holds Try.pinned (OpenSpec.ofChange spanOnesSpec)

/-- ITS FALSE NEIGHBOUR: 'it returns false'. Refute it at one input. -/
def spanOnesWrong : ChangeSpec := { name := "spanOnes", fn := fun _ => fun
  | [d1, d2, d3, d4] => { results := [.lit (.bool false)], args := [d1, d2, d3, d4] }
  | _ => none }
def SpanOnesWrongFalsely : Prop := spanOnesRow.holds Try.pinned (OpenSpec.ofChange spanOnesWrong)

/- THE SECOND FORM. 'bulk': how many values and letters a reading holds, each counted each time it is reached (what is shared counts as often as it is met; a slice's spare places count too). A statement '..UptoSaid' is the law's where the arguments, and the package variables that the reading takes, are together of bulk at most 1048576: NARROWER than '..Said'. Prove '..Said' where nothing that the law and all that it calls make is longer than what came in: it says more and counts as full. Else prove '..UptoSaid'. A law counts once. -/
mutual
def uptoBulk {H : Type} : DataW H → Nat
  | .lit (.string bytes) => bytes.length + 1
  | .lit _ => 1
  | .nil => 1
  | .ptr d => uptoBulk d + 1
  | .slice elems spare => uptoBulkAll elems + uptoBulkAll spare + 1
  | .agg parts => uptoBulkAll parts + 1
  | .iface _ d => uptoBulk d + 1
  | .map entries => uptoBulkEntries entries + 1
  | .held _ => 1
def uptoBulkAll {H : Type} : List (DataW H) → Nat
  | [] => 0
  | d :: r => uptoBulk d + uptoBulkAll r
def uptoBulkEntries {H : Type} : List (Lit × DataW H) → Nat
  | [] => 0
  | x :: r => uptoBulkEntry x + uptoBulkEntries r
def uptoBulkEntry {H : Type} : Lit × DataW H → Nat
  | (.string bytes, d) => bytes.length + uptoBulk d + 1
  | (_, d) => uptoBulk d + 1
 end
def uptoSmall : (H : Type) → List (DataW H) → Bool := fun _ ds => decide (uptoBulkAll ds ≤ 1048576)
def OpenSpec.upto (s : _root_.Go.ChangeSpec) : _root_.Go.OpenSpec := { _root_.Go.OpenSpec.ofChange s with cond := some uptoSmall }

/-- 'swingbridgelaw08.SpanDoes', WHERE WHAT IT READS IS OF BULK AT MOST 1048576: true; the input reads as it did. -/
def spanDoesUptoRow : OpenClaim := { program := "ytanopmoiegbjdaa", sum := "1227607c8520a9d29669d8712558b1a57ddef9c5591bad06dbbe2582e7ca664c", func := "swingbridge/swingbridgelaw08.SpanDoes", spec := "spanDoes", inPlace := ["math/bits.Add64"], unfollowed := true, recurses := true, apart := false, narrowed := true }
def SpanDoesUptoSaid : Prop := spanDoesUptoRow.holds Try.pinned (OpenSpec.upto spanDoesSpec)

/-- 'swingbridgelaw08.SpanHolds', WHERE WHAT IT READS IS OF BULK AT MOST 1048576: true; the input reads as it did. -/
def spanHoldsUptoRow : OpenClaim := { program := "ytanopmoiegbjdaa", sum := "1227607c8520a9d29669d8712558b1a57ddef9c5591bad06dbbe2582e7ca664c", func := "swingbridge/swingbridgelaw08.SpanHolds", spec := "spanHolds", inPlace := ["math/bits.Add64"], unfollowed := true, recurses := true, apart := false, narrowed := true }
def SpanHoldsUptoSaid : Prop := spanHoldsUptoRow.holds Try.pinned (OpenSpec.upto spanHoldsSpec)

/-- 'swingbridgelaw08.SpanWhere', WHERE WHAT IT READS IS OF BULK AT MOST 1048576: true; the input reads as it did. -/
def spanWhereUptoRow : OpenClaim := { program := "ytanopmoiegbjdaa", sum := "1227607c8520a9d29669d8712558b1a57ddef9c5591bad06dbbe2582e7ca664c", func := "swingbridge/swingbridgelaw08.SpanWhere", spec := "spanWhere", inPlace := ["math/bits.Add64"], unfollowed := true, recurses := true, apart := false, narrowed := true }
def SpanWhereUptoSaid : Prop := spanWhereUptoRow.holds Try.pinned (OpenSpec.upto spanWhereSpec)

/-- 'swingbridgelaw08.SpanJoins', WHERE WHAT IT READS IS OF BULK AT MOST 1048576: true; the input reads as it did. -/
def spanJoinsUptoRow : OpenClaim := { program := "ytanopmoiegbjdaa", sum := "1227607c8520a9d29669d8712558b1a57ddef9c5591bad06dbbe2582e7ca664c", func := "swingbridge/swingbridgelaw08.SpanJoins", spec := "spanJoins", inPlace := ["math/bits.Add64"], unfollowed := true, recurses := true, apart := false, narrowed := true }
def SpanJoinsUptoSaid : Prop := spanJoinsUptoRow.holds Try.pinned (OpenSpec.upto spanJoinsSpec)

/-- 'swingbridgelaw08.SpanWider', WHERE WHAT IT READS IS OF BULK AT MOST 1048576: true; the input reads as it did. -/
def spanWiderUptoRow : OpenClaim := { program := "ytanopmoiegbjdaa", sum := "1227607c8520a9d29669d8712558b1a57ddef9c5591bad06dbbe2582e7ca664c", func := "swingbridge/swingbridgelaw08.SpanWider", spec := "spanWider", inPlace := ["math/bits.Add64"], unfollowed := true, recurses := true, apart := false, narrowed := true }
def SpanWiderUptoSaid : Prop := spanWiderUptoRow.holds Try.pinned (OpenSpec.upto spanWiderSpec)

/-- 'swingbridgelaw08.SpanMeets', WHERE WHAT IT READS IS OF BULK AT MOST 1048576: true; the input reads as it did. -/
def spanMeetsUptoRow : OpenClaim := { program := "ytanopmoiegbjdaa", sum := "1227607c8520a9d29669d8712558b1a57ddef9c5591bad06dbbe2582e7ca664c", func := "swingbridge/swingbridgelaw08.SpanMeets", spec := "spanMeets", inPlace := ["math/bits.Add64"], unfollowed := true, recurses := true, apart := false, narrowed := true }
def SpanMeetsUptoSaid : Prop := spanMeetsUptoRow.holds Try.pinned (OpenSpec.upto spanMeetsSpec)

/-- 'swingbridgelaw08.SpanLeaves', WHERE WHAT IT READS IS OF BULK AT MOST 1048576: true; the input reads as it did. -/
def spanLeavesUptoRow : OpenClaim := { program := "ytanopmoiegbjdaa", sum := "1227607c8520a9d29669d8712558b1a57ddef9c5591bad06dbbe2582e7ca664c", func := "swingbridge/swingbridgelaw08.SpanLeaves", spec := "spanLeaves", inPlace := ["math/bits.Add64"], unfollowed := true, recurses := true, apart := false, narrowed := true }
def SpanLeavesUptoSaid : Prop := spanLeavesUptoRow.holds Try.pinned (OpenSpec.upto spanLeavesSpec)

/-- 'swingbridgelaw08.SpanOnes', WHERE WHAT IT READS IS OF BULK AT MOST 1048576: true; the input reads as it did. -/
def spanOnesUptoRow : OpenClaim := { program := "ytanopmoiegbjdaa", sum := "1227607c8520a9d29669d8712558b1a57ddef9c5591bad06dbbe2582e7ca664c", func := "swingbridge/swingbridgelaw08.SpanOnes", spec := "spanOnes", inPlace := ["math/bits.Add64"], unfollowed := true, recurses := true, apart := false, narrowed := true }
def SpanOnesUptoSaid : Prop := spanOnesUptoRow.holds Try.pinned (OpenSpec.upto spanOnesSpec)

end Rows
end Go.Proofs.Ytanopmoiegbjdaa
