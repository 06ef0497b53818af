/-
  No cell of these rows narrows 'for every input' (looked for: loops, veiled, ifaces, maps, wideKeys, modest, calm, conditions, laid).
  DERIVED. THE GIVEN ROWS OF THIS SEAT. 5 by the template 'for every input the law returns true; each argument reads behind the call as it read before'; 0 by the template 'total and deterministic' (their statements: YtopnnipdijcpoaaTotals.lean).
  GIVEN WITH THE SEED: the statements are not yours to turn. If you find one false, say at which input.
  Laid BY PROGRAM, IN A SANDBOX (cutbox-rows.mjs): the forced cells as the released guide's own fill.sh prints them over the translation bd5c59301102efb1… (all of the seat's roots in one cut). By AI agents, Wed Nov 11 2026. No macro, syntax, notation, axiom, sorry.
-/
import Derived.Test.YtopnnipdijcpoaaChecked
import GoSem.Claim
import GoSem.ClaimJoined
import GoSem.ClaimMapViews
import Derived.JoinedTies
import Derived.KernelRfl
namespace Go.Proofs.Ytopnnipdijcpoaa
/- THE CELL 'sum', in the pinned program and in every row, IS THE sha256 OF THE DUMP (.gsa) THAT YtopnnipdijcpoaaProg.lean LOADS. Nothing in Lean hashes anything: it is a label: what it is worth is what the hold of that sum in a sandbox is worth. -/
noncomputable def Try.pinned : Pinned := { name := "ytopnnipdijcpoaa", sum := "bd5c59301102efb110a72be11a8f72a49003724b5b2e74adc28ddbe2f7827116", checked := Try.checked }
namespace Rows
def none {H : Type} : Left H := { results := [], args := [] }

/-- 'swingbridgelaw13.StepNeeds': WHATEVER THE INPUT: true; the input reads as it did. -/
def stepNeedsSpec : ChangeSpec := { name := "stepNeeds", fn := fun _ => fun
  | [d] => { results := [.lit (.bool true)], args := [d] }
  | _ => none }
def stepNeedsRow : OpenClaim := { program := "ytopnnipdijcpoaa", sum := "bd5c59301102efb110a72be11a8f72a49003724b5b2e74adc28ddbe2f7827116", func := "swingbridge/swingbridgelaw13.StepNeeds", spec := "stepNeeds", inPlace := ["math/bits.Add64"], unfollowed := true, recurses := true, apart := false }
def StepNeedsSaid : Prop := stepNeedsRow.holds Try.pinned (OpenSpec.ofChange stepNeedsSpec)

/-- ITS FALSE NEIGHBOUR: 'it returns false'. Refute it at one input. -/
def stepNeedsWrong : ChangeSpec := { name := "stepNeeds", fn := fun _ => fun
  | [d] => { results := [.lit (.bool false)], args := [d] }
  | _ => none }
def StepNeedsWrongFalsely : Prop := stepNeedsRow.holds Try.pinned (OpenSpec.ofChange stepNeedsWrong)

/-- 'swingbridgelaw13.StepCalls': WHATEVER THE INPUT: true; the input reads as it did. -/
def stepCallsSpec : ChangeSpec := { name := "stepCalls", fn := fun _ => fun
  | [d] => { results := [.lit (.bool true)], args := [d] }
  | _ => none }
def stepCallsRow : OpenClaim := { program := "ytopnnipdijcpoaa", sum := "bd5c59301102efb110a72be11a8f72a49003724b5b2e74adc28ddbe2f7827116", func := "swingbridge/swingbridgelaw13.StepCalls", spec := "stepCalls", inPlace := ["math/bits.Add64"], unfollowed := true, recurses := true, apart := false }
def StepCallsSaid : Prop := stepCallsRow.holds Try.pinned (OpenSpec.ofChange stepCallsSpec)

/-- ITS FALSE NEIGHBOUR: 'it returns false'. Refute it at one input. -/
def stepCallsWrong : ChangeSpec := { name := "stepCalls", fn := fun _ => fun
  | [d] => { results := [.lit (.bool false)], args := [d] }
  | _ => none }
def StepCallsWrongFalsely : Prop := stepCallsRow.holds Try.pinned (OpenSpec.ofChange stepCallsWrong)

/-- 'swingbridgelaw13.StepExact': WHATEVER THE INPUT: true; the input reads as it did. -/
def stepExactSpec : ChangeSpec := { name := "stepExact", fn := fun _ => fun
  | [d1, d2, d3] => { results := [.lit (.bool true)], args := [d1, d2, d3] }
  | _ => none }
def stepExactRow : OpenClaim := { program := "ytopnnipdijcpoaa", sum := "bd5c59301102efb110a72be11a8f72a49003724b5b2e74adc28ddbe2f7827116", func := "swingbridge/swingbridgelaw13.StepExact", spec := "stepExact", inPlace := ["math/bits.Add64"], unfollowed := true, recurses := true, apart := false }
def StepExactSaid : Prop := stepExactRow.holds Try.pinned (OpenSpec.ofChange stepExactSpec)

/-- ITS FALSE NEIGHBOUR: 'it returns false'. Refute it at one input. -/
def stepExactWrong : ChangeSpec := { name := "stepExact", fn := fun _ => fun
  | [d1, d2, d3] => { results := [.lit (.bool false)], args := [d1, d2, d3] }
  | _ => none }
def StepExactWrongFalsely : Prop := stepExactRow.holds Try.pinned (OpenSpec.ofChange stepExactWrong)

/-- 'swingbridgelaw13.StepCovers': WHATEVER THE INPUT: true; the input reads as it did. -/
def stepCoversSpec : ChangeSpec := { name := "stepCovers", fn := fun _ => fun
  | [d1, d2, d3] => { results := [.lit (.bool true)], args := [d1, d2, d3] }
  | _ => none }
def stepCoversRow : OpenClaim := { program := "ytopnnipdijcpoaa", sum := "bd5c59301102efb110a72be11a8f72a49003724b5b2e74adc28ddbe2f7827116", func := "swingbridge/swingbridgelaw13.StepCovers", spec := "stepCovers", inPlace := ["math/bits.Add64"], unfollowed := true, recurses := true, apart := false }
def StepCoversSaid : Prop := stepCoversRow.holds Try.pinned (OpenSpec.ofChange stepCoversSpec)

/-- ITS FALSE NEIGHBOUR: 'it returns false'. Refute it at one input. -/
def stepCoversWrong : ChangeSpec := { name := "stepCovers", fn := fun _ => fun
  | [d1, d2, d3] => { results := [.lit (.bool false)], args := [d1, d2, d3] }
  | _ => none }
def StepCoversWrongFalsely : Prop := stepCoversRow.holds Try.pinned (OpenSpec.ofChange stepCoversWrong)

/-- 'swingbridgelaw13.StepOnward': WHATEVER THE INPUT: true; the input reads as it did. -/
def stepOnwardSpec : ChangeSpec := { name := "stepOnward", fn := fun _ => fun
  | [d] => { results := [.lit (.bool true)], args := [d] }
  | _ => none }
def stepOnwardRow : OpenClaim := { program := "ytopnnipdijcpoaa", sum := "bd5c59301102efb110a72be11a8f72a49003724b5b2e74adc28ddbe2f7827116", func := "swingbridge/swingbridgelaw13.StepOnward", spec := "stepOnward", inPlace := ["math/bits.Add64"], unfollowed := true, recurses := true, apart := false }
def StepOnwardSaid : Prop := stepOnwardRow.holds Try.pinned (OpenSpec.ofChange stepOnwardSpec)

/-- ITS FALSE NEIGHBOUR: 'it returns false'. Refute it at one input. -/
def stepOnwardWrong : ChangeSpec := { name := "stepOnward", fn := fun _ => fun
  | [d] => { results := [.lit (.bool false)], args := [d] }
  | _ => none }
def StepOnwardWrongFalsely : Prop := stepOnwardRow.holds Try.pinned (OpenSpec.ofChange stepOnwardWrong)

/- THE SECOND FORM. 'bulk': how many values and letters a reading holds, each counted each time it is reached (what is shared counts as often as it is met; a slice's spare places count too). A statement '..UptoSaid' is the law's where the arguments, and the package variables that the reading takes, are together of bulk at most 1048576: NARROWER than '..Said'. Prove '..Said' where nothing that the law and all that it calls make is longer than what came in: it says more and counts as full. Else prove '..UptoSaid'. A law counts once. -/
mutual
def uptoBulk {H : Type} : DataW H → Nat
  | .lit (.string bytes) => bytes.length + 1
  | .lit _ => 1
  | .nil => 1
  | .ptr d => uptoBulk d + 1
  | .slice elems spare => uptoBulkAll elems + uptoBulkAll spare + 1
  | .agg parts => uptoBulkAll parts + 1
  | .iface _ d => uptoBulk d + 1
  | .map entries => uptoBulkEntries entries + 1
  | .held _ => 1
def uptoBulkAll {H : Type} : List (DataW H) → Nat
  | [] => 0
  | d :: r => uptoBulk d + uptoBulkAll r
def uptoBulkEntries {H : Type} : List (Lit × DataW H) → Nat
  | [] => 0
  | x :: r => uptoBulkEntry x + uptoBulkEntries r
def uptoBulkEntry {H : Type} : Lit × DataW H → Nat
  | (.string bytes, d) => bytes.length + uptoBulk d + 1
  | (_, d) => uptoBulk d + 1
 end
def uptoSmall : (H : Type) → List (DataW H) → Bool := fun _ ds => decide (uptoBulkAll ds ≤ 1048576)
def OpenSpec.upto (s : _root_.Go.ChangeSpec) : _root_.Go.OpenSpec := { _root_.Go.OpenSpec.ofChange s with cond := some uptoSmall }

/-- 'swingbridgelaw13.StepNeeds', WHERE WHAT IT READS IS OF BULK AT MOST 1048576: true; the input reads as it did. -/
def stepNeedsUptoRow : OpenClaim := { program := "ytopnnipdijcpoaa", sum := "bd5c59301102efb110a72be11a8f72a49003724b5b2e74adc28ddbe2f7827116", func := "swingbridge/swingbridgelaw13.StepNeeds", spec := "stepNeeds", inPlace := ["math/bits.Add64"], unfollowed := true, recurses := true, apart := false, narrowed := true }
def StepNeedsUptoSaid : Prop := stepNeedsUptoRow.holds Try.pinned (OpenSpec.upto stepNeedsSpec)

/-- 'swingbridgelaw13.StepCalls', WHERE WHAT IT READS IS OF BULK AT MOST 1048576: true; the input reads as it did. -/
def stepCallsUptoRow : OpenClaim := { program := "ytopnnipdijcpoaa", sum := "bd5c59301102efb110a72be11a8f72a49003724b5b2e74adc28ddbe2f7827116", func := "swingbridge/swingbridgelaw13.StepCalls", spec := "stepCalls", inPlace := ["math/bits.Add64"], unfollowed := true, recurses := true, apart := false, narrowed := true }
def StepCallsUptoSaid : Prop := stepCallsUptoRow.holds Try.pinned (OpenSpec.upto stepCallsSpec)

/-- 'swingbridgelaw13.StepExact', WHERE WHAT IT READS IS OF BULK AT MOST 1048576: true; the input reads as it did. -/
def stepExactUptoRow : OpenClaim := { program := "ytopnnipdijcpoaa", sum := "bd5c59301102efb110a72be11a8f72a49003724b5b2e74adc28ddbe2f7827116", func := "swingbridge/swingbridgelaw13.StepExact", spec := "stepExact", inPlace := ["math/bits.Add64"], unfollowed := true, recurses := true, apart := false, narrowed := true }
def StepExactUptoSaid : Prop := stepExactUptoRow.holds Try.pinned (OpenSpec.upto stepExactSpec)

/-- 'swingbridgelaw13.StepCovers', WHERE WHAT IT READS IS OF BULK AT MOST 1048576: true; the input reads as it did. -/
def stepCoversUptoRow : OpenClaim := { program := "ytopnnipdijcpoaa", sum := "bd5c59301102efb110a72be11a8f72a49003724b5b2e74adc28ddbe2f7827116", func := "swingbridge/swingbridgelaw13.StepCovers", spec := "stepCovers", inPlace := ["math/bits.Add64"], unfollowed := true, recurses := true, apart := false, narrowed := true }
def StepCoversUptoSaid : Prop := stepCoversUptoRow.holds Try.pinned (OpenSpec.upto stepCoversSpec)

/-- 'swingbridgelaw13.StepOnward', WHERE WHAT IT READS IS OF BULK AT MOST 1048576: true; the input reads as it did. -/
def stepOnwardUptoRow : OpenClaim := { program := "ytopnnipdijcpoaa", sum := "bd5c59301102efb110a72be11a8f72a49003724b5b2e74adc28ddbe2f7827116", func := "swingbridge/swingbridgelaw13.StepOnward", spec := "stepOnward", inPlace := ["math/bits.Add64"], unfollowed := true, recurses := true, apart := false, narrowed := true }
def StepOnwardUptoSaid : Prop := stepOnwardUptoRow.holds Try.pinned (OpenSpec.upto stepOnwardSpec)

end Rows
end Go.Proofs.Ytopnnipdijcpoaa
