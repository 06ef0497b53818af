/-
  No cell of these rows narrows 'for every input' (looked for: loops, veiled, ifaces, maps, wideKeys, modest, calm, conditions, laid).
  DERIVED. THE GIVEN ROWS OF THIS SEAT. 6 by the template 'for every input the law returns true; each argument reads behind the call as it read before'; 0 by the template 'total and deterministic' (their statements: YthffcmecjfnokaaTotals.lean).
  GIVEN WITH THE SEED: the statements are not yours to turn. If you find one false, say at which input.
  Laid BY PROGRAM, IN A SANDBOX (cutbox-rows.mjs): the forced cells as the released guide's own fill.sh prints them over the translation 3febe87e75bd90c4… (all of the seat's roots in one cut). By AI agents, Wed Nov 11 2026. No macro, syntax, notation, axiom, sorry.
-/
import Derived.Test.YthffcmecjfnokaaChecked
import GoSem.Claim
import GoSem.ClaimJoined
import GoSem.ClaimMapViews
import Derived.JoinedTies
import Derived.KernelRfl
namespace Go.Proofs.Ythffcmecjfnokaa
/- THE CELL 'sum', in the pinned program and in every row, IS THE sha256 OF THE DUMP (.gsa) THAT YthffcmecjfnokaaProg.lean LOADS. Nothing in Lean hashes anything: it is a label: what it is worth is what the hold of that sum in a sandbox is worth. -/
noncomputable def Try.pinned : Pinned := { name := "ythffcmecjfnokaa", sum := "3febe87e75bd90c48eebe02f89f13db1bdf6044d3dd9327e1b227a75439db672", checked := Try.checked }
namespace Rows
def none {H : Type} : Left H := { results := [], args := [] }

/-- 'swingbridgelaw12.RegMoves': WHATEVER THE INPUT: true; the input reads as it did. -/
def regMovesSpec : ChangeSpec := { name := "regMoves", fn := fun _ => fun
  | [d1, d2, d3, d4, d5, d6, d7] => { results := [.lit (.bool true)], args := [d1, d2, d3, d4, d5, d6, d7] }
  | _ => none }
def regMovesRow : OpenClaim := { program := "ythffcmecjfnokaa", sum := "3febe87e75bd90c48eebe02f89f13db1bdf6044d3dd9327e1b227a75439db672", func := "swingbridge/swingbridgelaw12.RegMoves", spec := "regMoves", apart := false }
def RegMovesSaid : Prop := regMovesRow.holds Try.pinned (OpenSpec.ofChange regMovesSpec)

/-- ITS FALSE NEIGHBOUR: 'it returns false'. Refute it at one input. -/
def regMovesWrong : ChangeSpec := { name := "regMoves", fn := fun _ => fun
  | [d1, d2, d3, d4, d5, d6, d7] => { results := [.lit (.bool false)], args := [d1, d2, d3, d4, d5, d6, d7] }
  | _ => none }
def RegMovesWrongFalsely : Prop := regMovesRow.holds Try.pinned (OpenSpec.ofChange regMovesWrong)

/-- 'swingbridgelaw12.RegBack': WHATEVER THE INPUT: true; the input reads as it did. -/
def regBackSpec : ChangeSpec := { name := "regBack", fn := fun _ => fun
  | [d1, d2, d3, d4] => { results := [.lit (.bool true)], args := [d1, d2, d3, d4] }
  | _ => none }
def regBackRow : OpenClaim := { program := "ythffcmecjfnokaa", sum := "3febe87e75bd90c48eebe02f89f13db1bdf6044d3dd9327e1b227a75439db672", func := "swingbridge/swingbridgelaw12.RegBack", spec := "regBack", apart := false }
def RegBackSaid : Prop := regBackRow.holds Try.pinned (OpenSpec.ofChange regBackSpec)

/-- ITS FALSE NEIGHBOUR: 'it returns false'. Refute it at one input. -/
def regBackWrong : ChangeSpec := { name := "regBack", fn := fun _ => fun
  | [d1, d2, d3, d4] => { results := [.lit (.bool false)], args := [d1, d2, d3, d4] }
  | _ => none }
def RegBackWrongFalsely : Prop := regBackRow.holds Try.pinned (OpenSpec.ofChange regBackWrong)

/-- 'swingbridgelaw12.RegWithin': WHATEVER THE INPUT: true; the input reads as it did. -/
def regWithinSpec : ChangeSpec := { name := "regWithin", fn := fun _ => fun
  | [d1, d2, d3, d4, d5, d6] => { results := [.lit (.bool true)], args := [d1, d2, d3, d4, d5, d6] }
  | _ => none }
def regWithinRow : OpenClaim := { program := "ythffcmecjfnokaa", sum := "3febe87e75bd90c48eebe02f89f13db1bdf6044d3dd9327e1b227a75439db672", func := "swingbridge/swingbridgelaw12.RegWithin", spec := "regWithin", apart := false }
def RegWithinSaid : Prop := regWithinRow.holds Try.pinned (OpenSpec.ofChange regWithinSpec)

/-- ITS FALSE NEIGHBOUR: 'it returns false'. Refute it at one input. -/
def regWithinWrong : ChangeSpec := { name := "regWithin", fn := fun _ => fun
  | [d1, d2, d3, d4, d5, d6] => { results := [.lit (.bool false)], args := [d1, d2, d3, d4, d5, d6] }
  | _ => none }
def RegWithinWrongFalsely : Prop := regWithinRow.holds Try.pinned (OpenSpec.ofChange regWithinWrong)

/-- 'swingbridgelaw12.RegJoins': WHATEVER THE INPUT: true; the input reads as it did. -/
def regJoinsSpec : ChangeSpec := { name := "regJoins", fn := fun _ => fun
  | [d1, d2, d3, d4] => { results := [.lit (.bool true)], args := [d1, d2, d3, d4] }
  | _ => none }
def regJoinsRow : OpenClaim := { program := "ythffcmecjfnokaa", sum := "3febe87e75bd90c48eebe02f89f13db1bdf6044d3dd9327e1b227a75439db672", func := "swingbridge/swingbridgelaw12.RegJoins", spec := "regJoins", apart := false }
def RegJoinsSaid : Prop := regJoinsRow.holds Try.pinned (OpenSpec.ofChange regJoinsSpec)

/-- ITS FALSE NEIGHBOUR: 'it returns false'. Refute it at one input. -/
def regJoinsWrong : ChangeSpec := { name := "regJoins", fn := fun _ => fun
  | [d1, d2, d3, d4] => { results := [.lit (.bool false)], args := [d1, d2, d3, d4] }
  | _ => none }
def RegJoinsWrongFalsely : Prop := regJoinsRow.holds Try.pinned (OpenSpec.ofChange regJoinsWrong)

/-- 'swingbridgelaw12.RegCovers': WHATEVER THE INPUT: true; the input reads as it did. -/
def regCoversSpec : ChangeSpec := { name := "regCovers", fn := fun _ => fun
  | [d1, d2, d3, d4] => { results := [.lit (.bool true)], args := [d1, d2, d3, d4] }
  | _ => none }
def regCoversRow : OpenClaim := { program := "ythffcmecjfnokaa", sum := "3febe87e75bd90c48eebe02f89f13db1bdf6044d3dd9327e1b227a75439db672", func := "swingbridge/swingbridgelaw12.RegCovers", spec := "regCovers", apart := false }
def RegCoversSaid : Prop := regCoversRow.holds Try.pinned (OpenSpec.ofChange regCoversSpec)

/-- ITS FALSE NEIGHBOUR: 'it returns false'. Refute it at one input. -/
def regCoversWrong : ChangeSpec := { name := "regCovers", fn := fun _ => fun
  | [d1, d2, d3, d4] => { results := [.lit (.bool false)], args := [d1, d2, d3, d4] }
  | _ => none }
def RegCoversWrongFalsely : Prop := regCoversRow.holds Try.pinned (OpenSpec.ofChange regCoversWrong)

/-- 'swingbridgelaw12.RegThree': WHATEVER THE INPUT: true; the input reads as it did. -/
def regThreeSpec : ChangeSpec := { name := "regThree", fn := fun _ => fun
  | [d1, d2, d3, d4, d5] => { results := [.lit (.bool true)], args := [d1, d2, d3, d4, d5] }
  | _ => none }
def regThreeRow : OpenClaim := { program := "ythffcmecjfnokaa", sum := "3febe87e75bd90c48eebe02f89f13db1bdf6044d3dd9327e1b227a75439db672", func := "swingbridge/swingbridgelaw12.RegThree", spec := "regThree", apart := false }
def RegThreeSaid : Prop := regThreeRow.holds Try.pinned (OpenSpec.ofChange regThreeSpec)

/-- ITS FALSE NEIGHBOUR: 'it returns false'. Refute it at one input. -/
def regThreeWrong : ChangeSpec := { name := "regThree", fn := fun _ => fun
  | [d1, d2, d3, d4, d5] => { results := [.lit (.bool false)], args := [d1, d2, d3, d4, d5] }
  | _ => none }
def RegThreeWrongFalsely : Prop := regThreeRow.holds Try.pinned (OpenSpec.ofChange regThreeWrong)

/- THE SECOND FORM. 'bulk': how many values and letters a reading holds, each counted each time it is reached (what is shared counts as often as it is met; a slice's spare places count too). A statement '..UptoSaid' is the law's where the arguments, and the package variables that the reading takes, are together of bulk at most 1048576: NARROWER than '..Said'. Prove '..Said' where nothing that the law and all that it calls make is longer than what came in: it says more and counts as full. Else prove '..UptoSaid'. A law counts once. -/
mutual
def uptoBulk {H : Type} : DataW H → Nat
  | .lit (.string bytes) => bytes.length + 1
  | .lit _ => 1
  | .nil => 1
  | .ptr d => uptoBulk d + 1
  | .slice elems spare => uptoBulkAll elems + uptoBulkAll spare + 1
  | .agg parts => uptoBulkAll parts + 1
  | .iface _ d => uptoBulk d + 1
  | .map entries => uptoBulkEntries entries + 1
  | .held _ => 1
def uptoBulkAll {H : Type} : List (DataW H) → Nat
  | [] => 0
  | d :: r => uptoBulk d + uptoBulkAll r
def uptoBulkEntries {H : Type} : List (Lit × DataW H) → Nat
  | [] => 0
  | x :: r => uptoBulkEntry x + uptoBulkEntries r
def uptoBulkEntry {H : Type} : Lit × DataW H → Nat
  | (.string bytes, d) => bytes.length + uptoBulk d + 1
  | (_, d) => uptoBulk d + 1
 end
def uptoSmall : (H : Type) → List (DataW H) → Bool := fun _ ds => decide (uptoBulkAll ds ≤ 1048576)
def OpenSpec.upto (s : _root_.Go.ChangeSpec) : _root_.Go.OpenSpec := { _root_.Go.OpenSpec.ofChange s with cond := some uptoSmall }

/-- 'swingbridgelaw12.RegMoves', WHERE WHAT IT READS IS OF BULK AT MOST 1048576: true; the input reads as it did. -/
def regMovesUptoRow : OpenClaim := { program := "ythffcmecjfnokaa", sum := "3febe87e75bd90c48eebe02f89f13db1bdf6044d3dd9327e1b227a75439db672", func := "swingbridge/swingbridgelaw12.RegMoves", spec := "regMoves", apart := false, narrowed := true }
def RegMovesUptoSaid : Prop := regMovesUptoRow.holds Try.pinned (OpenSpec.upto regMovesSpec)

/-- 'swingbridgelaw12.RegBack', WHERE WHAT IT READS IS OF BULK AT MOST 1048576: true; the input reads as it did. -/
def regBackUptoRow : OpenClaim := { program := "ythffcmecjfnokaa", sum := "3febe87e75bd90c48eebe02f89f13db1bdf6044d3dd9327e1b227a75439db672", func := "swingbridge/swingbridgelaw12.RegBack", spec := "regBack", apart := false, narrowed := true }
def RegBackUptoSaid : Prop := regBackUptoRow.holds Try.pinned (OpenSpec.upto regBackSpec)

/-- 'swingbridgelaw12.RegWithin', WHERE WHAT IT READS IS OF BULK AT MOST 1048576: true; the input reads as it did. -/
def regWithinUptoRow : OpenClaim := { program := "ythffcmecjfnokaa", sum := "3febe87e75bd90c48eebe02f89f13db1bdf6044d3dd9327e1b227a75439db672", func := "swingbridge/swingbridgelaw12.RegWithin", spec := "regWithin", apart := false, narrowed := true }
def RegWithinUptoSaid : Prop := regWithinUptoRow.holds Try.pinned (OpenSpec.upto regWithinSpec)

/-- 'swingbridgelaw12.RegJoins', WHERE WHAT IT READS IS OF BULK AT MOST 1048576: true; the input reads as it did. -/
def regJoinsUptoRow : OpenClaim := { program := "ythffcmecjfnokaa", sum := "3febe87e75bd90c48eebe02f89f13db1bdf6044d3dd9327e1b227a75439db672", func := "swingbridge/swingbridgelaw12.RegJoins", spec := "regJoins", apart := false, narrowed := true }
def RegJoinsUptoSaid : Prop := regJoinsUptoRow.holds Try.pinned (OpenSpec.upto regJoinsSpec)

/-- 'swingbridgelaw12.RegCovers', WHERE WHAT IT READS IS OF BULK AT MOST 1048576: true; the input reads as it did. -/
def regCoversUptoRow : OpenClaim := { program := "ythffcmecjfnokaa", sum := "3febe87e75bd90c48eebe02f89f13db1bdf6044d3dd9327e1b227a75439db672", func := "swingbridge/swingbridgelaw12.RegCovers", spec := "regCovers", apart := false, narrowed := true }
def RegCoversUptoSaid : Prop := regCoversUptoRow.holds Try.pinned (OpenSpec.upto regCoversSpec)

/-- 'swingbridgelaw12.RegThree', WHERE WHAT IT READS IS OF BULK AT MOST 1048576: true; the input reads as it did. -/
def regThreeUptoRow : OpenClaim := { program := "ythffcmecjfnokaa", sum := "3febe87e75bd90c48eebe02f89f13db1bdf6044d3dd9327e1b227a75439db672", func := "swingbridge/swingbridgelaw12.RegThree", spec := "regThree", apart := false, narrowed := true }
def RegThreeUptoSaid : Prop := regThreeUptoRow.holds Try.pinned (OpenSpec.upto regThreeSpec)

end Rows
end Go.Proofs.Ythffcmecjfnokaa
