/-
  No cell of these rows narrows 'for every input' (looked for: loops, veiled, ifaces, maps, wideKeys, modest, calm, conditions, laid).
  DERIVED. THE GIVEN ROWS OF THIS SEAT. 6 by the template 'for every input the law returns true; each argument reads behind the call as it read before'; 0 by the template 'total and deterministic' (their statements: YthjljdbelnakfaaTotals.lean).
  GIVEN WITH THE SEED: the statements are not yours to turn. If you find one false, say at which input.
  Laid BY PROGRAM, IN A SANDBOX (cutbox-rows.mjs): the forced cells as the released guide's own fill.sh prints them over the translation 29363fc46506b0eb… (all of the seat's roots in one cut). By AI agents, Wed Nov 11 2026. No macro, syntax, notation, axiom, sorry.
-/
import Derived.Test.YthjljdbelnakfaaChecked
import GoSem.Claim
import GoSem.ClaimJoined
import GoSem.ClaimMapViews
import Derived.JoinedTies
import Derived.KernelRfl
namespace Go.Proofs.Ythjljdbelnakfaa
/- THE CELL 'sum', in the pinned program and in every row, IS THE sha256 OF THE DUMP (.gsa) THAT YthjljdbelnakfaaProg.lean LOADS. Nothing in Lean hashes anything: it is a label: what it is worth is what the hold of that sum in a sandbox is worth. -/
noncomputable def Try.pinned : Pinned := { name := "ythjljdbelnakfaa", sum := "29363fc46506b0eb35f85238752c3671cb720d6eca2168ba8e416f6ab313d3f8", checked := Try.checked }
namespace Rows
def none {H : Type} : Left H := { results := [], args := [] }

/-- 'swingbridgelaw06.ShapeTells': WHATEVER THE INPUT: true; the input reads as it did. -/
def shapeTellsSpec : ChangeSpec := { name := "shapeTells", fn := fun _ => fun
  | [d1, d2] => { results := [.lit (.bool true)], args := [d1, d2] }
  | _ => none }
def shapeTellsRow : OpenClaim := { program := "ythjljdbelnakfaa", sum := "29363fc46506b0eb35f85238752c3671cb720d6eca2168ba8e416f6ab313d3f8", func := "swingbridge/swingbridgelaw06.ShapeTells", spec := "shapeTells", unfollowed := true, recurses := true, apart := false }
def ShapeTellsSaid : Prop := shapeTellsRow.holds Try.pinned (OpenSpec.ofChange shapeTellsSpec)

/-- ITS FALSE NEIGHBOUR: 'it returns false'. Refute it at one input. -/
def shapeTellsWrong : ChangeSpec := { name := "shapeTells", fn := fun _ => fun
  | [d1, d2] => { results := [.lit (.bool false)], args := [d1, d2] }
  | _ => none }
def ShapeTellsWrongFalsely : Prop := shapeTellsRow.holds Try.pinned (OpenSpec.ofChange shapeTellsWrong)

/-- 'swingbridgelaw06.ShapeForward': WHATEVER THE INPUT: true; the input reads as it did. -/
def shapeForwardSpec : ChangeSpec := { name := "shapeForward", fn := fun _ => fun
  | [d1, d2] => { results := [.lit (.bool true)], args := [d1, d2] }
  | _ => none }
def shapeForwardRow : OpenClaim := { program := "ythjljdbelnakfaa", sum := "29363fc46506b0eb35f85238752c3671cb720d6eca2168ba8e416f6ab313d3f8", func := "swingbridge/swingbridgelaw06.ShapeForward", spec := "shapeForward", unfollowed := true, recurses := true, apart := false }
def ShapeForwardSaid : Prop := shapeForwardRow.holds Try.pinned (OpenSpec.ofChange shapeForwardSpec)

/-- ITS FALSE NEIGHBOUR: 'it returns false'. Refute it at one input. -/
def shapeForwardWrong : ChangeSpec := { name := "shapeForward", fn := fun _ => fun
  | [d1, d2] => { results := [.lit (.bool false)], args := [d1, d2] }
  | _ => none }
def ShapeForwardWrongFalsely : Prop := shapeForwardRow.holds Try.pinned (OpenSpec.ofChange shapeForwardWrong)

/-- 'swingbridgelaw06.ShapeMore': WHATEVER THE INPUT: true; the input reads as it did. -/
def shapeMoreSpec : ChangeSpec := { name := "shapeMore", fn := fun _ => fun
  | [d1, d2] => { results := [.lit (.bool true)], args := [d1, d2] }
  | _ => none }
def shapeMoreRow : OpenClaim := { program := "ythjljdbelnakfaa", sum := "29363fc46506b0eb35f85238752c3671cb720d6eca2168ba8e416f6ab313d3f8", func := "swingbridge/swingbridgelaw06.ShapeMore", spec := "shapeMore", unfollowed := true, recurses := true, apart := false }
def ShapeMoreSaid : Prop := shapeMoreRow.holds Try.pinned (OpenSpec.ofChange shapeMoreSpec)

/-- ITS FALSE NEIGHBOUR: 'it returns false'. Refute it at one input. -/
def shapeMoreWrong : ChangeSpec := { name := "shapeMore", fn := fun _ => fun
  | [d1, d2] => { results := [.lit (.bool false)], args := [d1, d2] }
  | _ => none }
def ShapeMoreWrongFalsely : Prop := shapeMoreRow.holds Try.pinned (OpenSpec.ofChange shapeMoreWrong)

/-- 'swingbridgelaw06.ShapeReached': WHATEVER THE INPUT: true; the input reads as it did. -/
def shapeReachedSpec : ChangeSpec := { name := "shapeReached", fn := fun _ => fun
  | [d] => { results := [.lit (.bool true)], args := [d] }
  | _ => none }
def shapeReachedRow : OpenClaim := { program := "ythjljdbelnakfaa", sum := "29363fc46506b0eb35f85238752c3671cb720d6eca2168ba8e416f6ab313d3f8", func := "swingbridge/swingbridgelaw06.ShapeReached", spec := "shapeReached", unfollowed := true, recurses := true, apart := false }
def ShapeReachedSaid : Prop := shapeReachedRow.holds Try.pinned (OpenSpec.ofChange shapeReachedSpec)

/-- ITS FALSE NEIGHBOUR: 'it returns false'. Refute it at one input. -/
def shapeReachedWrong : ChangeSpec := { name := "shapeReached", fn := fun _ => fun
  | [d] => { results := [.lit (.bool false)], args := [d] }
  | _ => none }
def ShapeReachedWrongFalsely : Prop := shapeReachedRow.holds Try.pinned (OpenSpec.ofChange shapeReachedWrong)

/-- 'swingbridgelaw06.ShapeEnds': WHATEVER THE INPUT: true; the input reads as it did. -/
def shapeEndsSpec : ChangeSpec := { name := "shapeEnds", fn := fun _ => fun
  | [d1, d2] => { results := [.lit (.bool true)], args := [d1, d2] }
  | _ => none }
def shapeEndsRow : OpenClaim := { program := "ythjljdbelnakfaa", sum := "29363fc46506b0eb35f85238752c3671cb720d6eca2168ba8e416f6ab313d3f8", func := "swingbridge/swingbridgelaw06.ShapeEnds", spec := "shapeEnds", unfollowed := true, recurses := true, apart := false }
def ShapeEndsSaid : Prop := shapeEndsRow.holds Try.pinned (OpenSpec.ofChange shapeEndsSpec)

/-- ITS FALSE NEIGHBOUR: 'it returns false'. Refute it at one input. -/
def shapeEndsWrong : ChangeSpec := { name := "shapeEnds", fn := fun _ => fun
  | [d1, d2] => { results := [.lit (.bool false)], args := [d1, d2] }
  | _ => none }
def ShapeEndsWrongFalsely : Prop := shapeEndsRow.holds Try.pinned (OpenSpec.ofChange shapeEndsWrong)

/-- 'swingbridgelaw06.ShapeOrder': WHATEVER THE INPUT: true; the input reads as it did. -/
def shapeOrderSpec : ChangeSpec := { name := "shapeOrder", fn := fun _ => fun
  | [d1, d2, d3] => { results := [.lit (.bool true)], args := [d1, d2, d3] }
  | _ => none }
def shapeOrderRow : OpenClaim := { program := "ythjljdbelnakfaa", sum := "29363fc46506b0eb35f85238752c3671cb720d6eca2168ba8e416f6ab313d3f8", func := "swingbridge/swingbridgelaw06.ShapeOrder", spec := "shapeOrder", unfollowed := true, recurses := true, apart := false }
def ShapeOrderSaid : Prop := shapeOrderRow.holds Try.pinned (OpenSpec.ofChange shapeOrderSpec)

/-- ITS FALSE NEIGHBOUR: 'it returns false'. Refute it at one input. -/
def shapeOrderWrong : ChangeSpec := { name := "shapeOrder", fn := fun _ => fun
  | [d1, d2, d3] => { results := [.lit (.bool false)], args := [d1, d2, d3] }
  | _ => none }
def ShapeOrderWrongFalsely : Prop := shapeOrderRow.holds Try.pinned (OpenSpec.ofChange shapeOrderWrong)

/- THE SECOND FORM. 'bulk': how many values and letters a reading holds, each counted each time it is reached (what is shared counts as often as it is met; a slice's spare places count too). A statement '..UptoSaid' is the law's where the arguments, and the package variables that the reading takes, are together of bulk at most 1048576: NARROWER than '..Said'. Prove '..Said' where nothing that the law and all that it calls make is longer than what came in: it says more and counts as full. Else prove '..UptoSaid'. A law counts once. -/
mutual
def uptoBulk {H : Type} : DataW H → Nat
  | .lit (.string bytes) => bytes.length + 1
  | .lit _ => 1
  | .nil => 1
  | .ptr d => uptoBulk d + 1
  | .slice elems spare => uptoBulkAll elems + uptoBulkAll spare + 1
  | .agg parts => uptoBulkAll parts + 1
  | .iface _ d => uptoBulk d + 1
  | .map entries => uptoBulkEntries entries + 1
  | .held _ => 1
def uptoBulkAll {H : Type} : List (DataW H) → Nat
  | [] => 0
  | d :: r => uptoBulk d + uptoBulkAll r
def uptoBulkEntries {H : Type} : List (Lit × DataW H) → Nat
  | [] => 0
  | x :: r => uptoBulkEntry x + uptoBulkEntries r
def uptoBulkEntry {H : Type} : Lit × DataW H → Nat
  | (.string bytes, d) => bytes.length + uptoBulk d + 1
  | (_, d) => uptoBulk d + 1
 end
def uptoSmall : (H : Type) → List (DataW H) → Bool := fun _ ds => decide (uptoBulkAll ds ≤ 1048576)
def OpenSpec.upto (s : _root_.Go.ChangeSpec) : _root_.Go.OpenSpec := { _root_.Go.OpenSpec.ofChange s with cond := some uptoSmall }

/-- 'swingbridgelaw06.ShapeTells', WHERE WHAT IT READS IS OF BULK AT MOST 1048576: true; the input reads as it did. -/
def shapeTellsUptoRow : OpenClaim := { program := "ythjljdbelnakfaa", sum := "29363fc46506b0eb35f85238752c3671cb720d6eca2168ba8e416f6ab313d3f8", func := "swingbridge/swingbridgelaw06.ShapeTells", spec := "shapeTells", unfollowed := true, recurses := true, apart := false, narrowed := true }
def ShapeTellsUptoSaid : Prop := shapeTellsUptoRow.holds Try.pinned (OpenSpec.upto shapeTellsSpec)

/-- 'swingbridgelaw06.ShapeForward', WHERE WHAT IT READS IS OF BULK AT MOST 1048576: true; the input reads as it did. -/
def shapeForwardUptoRow : OpenClaim := { program := "ythjljdbelnakfaa", sum := "29363fc46506b0eb35f85238752c3671cb720d6eca2168ba8e416f6ab313d3f8", func := "swingbridge/swingbridgelaw06.ShapeForward", spec := "shapeForward", unfollowed := true, recurses := true, apart := false, narrowed := true }
def ShapeForwardUptoSaid : Prop := shapeForwardUptoRow.holds Try.pinned (OpenSpec.upto shapeForwardSpec)

/-- 'swingbridgelaw06.ShapeMore', WHERE WHAT IT READS IS OF BULK AT MOST 1048576: true; the input reads as it did. -/
def shapeMoreUptoRow : OpenClaim := { program := "ythjljdbelnakfaa", sum := "29363fc46506b0eb35f85238752c3671cb720d6eca2168ba8e416f6ab313d3f8", func := "swingbridge/swingbridgelaw06.ShapeMore", spec := "shapeMore", unfollowed := true, recurses := true, apart := false, narrowed := true }
def ShapeMoreUptoSaid : Prop := shapeMoreUptoRow.holds Try.pinned (OpenSpec.upto shapeMoreSpec)

/-- 'swingbridgelaw06.ShapeReached', WHERE WHAT IT READS IS OF BULK AT MOST 1048576: true; the input reads as it did. -/
def shapeReachedUptoRow : OpenClaim := { program := "ythjljdbelnakfaa", sum := "29363fc46506b0eb35f85238752c3671cb720d6eca2168ba8e416f6ab313d3f8", func := "swingbridge/swingbridgelaw06.ShapeReached", spec := "shapeReached", unfollowed := true, recurses := true, apart := false, narrowed := true }
def ShapeReachedUptoSaid : Prop := shapeReachedUptoRow.holds Try.pinned (OpenSpec.upto shapeReachedSpec)

/-- 'swingbridgelaw06.ShapeEnds', WHERE WHAT IT READS IS OF BULK AT MOST 1048576: true; the input reads as it did. -/
def shapeEndsUptoRow : OpenClaim := { program := "ythjljdbelnakfaa", sum := "29363fc46506b0eb35f85238752c3671cb720d6eca2168ba8e416f6ab313d3f8", func := "swingbridge/swingbridgelaw06.ShapeEnds", spec := "shapeEnds", unfollowed := true, recurses := true, apart := false, narrowed := true }
def ShapeEndsUptoSaid : Prop := shapeEndsUptoRow.holds Try.pinned (OpenSpec.upto shapeEndsSpec)

/-- 'swingbridgelaw06.ShapeOrder', WHERE WHAT IT READS IS OF BULK AT MOST 1048576: true; the input reads as it did. -/
def shapeOrderUptoRow : OpenClaim := { program := "ythjljdbelnakfaa", sum := "29363fc46506b0eb35f85238752c3671cb720d6eca2168ba8e416f6ab313d3f8", func := "swingbridge/swingbridgelaw06.ShapeOrder", spec := "shapeOrder", unfollowed := true, recurses := true, apart := false, narrowed := true }
def ShapeOrderUptoSaid : Prop := shapeOrderUptoRow.holds Try.pinned (OpenSpec.upto shapeOrderSpec)

end Rows
end Go.Proofs.Ythjljdbelnakfaa
