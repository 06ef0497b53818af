/-
  No cell of these rows narrows 'for every input' (looked for: loops, veiled, ifaces, maps, wideKeys, modest, calm, conditions, laid).
  DERIVED. THE GIVEN ROWS OF THIS SEAT. 8 by the template 'for every input the law returns true; each argument reads behind the call as it read before'; 0 by the template 'total and deterministic' (their statements: YtbahecbimpiicaaTotals.lean).
  GIVEN WITH THE SEED: the statements are not yours to turn. If you find one false, say at which input.
  Laid BY PROGRAM, IN A SANDBOX (cutbox-rows.mjs): the forced cells as the released guide's own fill.sh prints them over the translation baf9d04599dbf57e… (all of the seat's roots in one cut). By AI agents, Wed Nov 11 2026. No macro, syntax, notation, axiom, sorry.
-/
import Derived.Test.YtbahecbimpiicaaChecked
import GoSem.Claim
import GoSem.ClaimJoined
import GoSem.ClaimMapViews
import Derived.JoinedTies
import Derived.KernelRfl
namespace Go.Proofs.Ytbahecbimpiicaa
/- THE CELL 'sum', in the pinned program and in every row, IS THE sha256 OF THE DUMP (.gsa) THAT YtbahecbimpiicaaProg.lean LOADS. Nothing in Lean hashes anything: it is a label: what it is worth is what the hold of that sum in a sandbox is worth. -/
noncomputable def Try.pinned : Pinned := { name := "ytbahecbimpiicaa", sum := "baf9d04599dbf57e3570c1dc273e561aea62f95341afc930af51943fa50ac00b", checked := Try.checked }
namespace Rows
def none {H : Type} : Left H := { results := [], args := [] }

/-- 'swingbridgelaw07.AluDoes': WHATEVER THE INPUT: true; the input reads as it did. -/
def aluDoesSpec : ChangeSpec := { name := "aluDoes", fn := fun _ => fun
  | [d1, d2, d3, d4] => { results := [.lit (.bool true)], args := [d1, d2, d3, d4] }
  | _ => none }
def aluDoesRow : OpenClaim := { program := "ytbahecbimpiicaa", sum := "baf9d04599dbf57e3570c1dc273e561aea62f95341afc930af51943fa50ac00b", func := "swingbridge/swingbridgelaw07.AluDoes", spec := "aluDoes", apart := false }
def AluDoesSaid : Prop := aluDoesRow.holds Try.pinned (OpenSpec.ofChange aluDoesSpec)

/-- ITS FALSE NEIGHBOUR: 'it returns false'. Refute it at one input. -/
def aluDoesWrong : ChangeSpec := { name := "aluDoes", fn := fun _ => fun
  | [d1, d2, d3, d4] => { results := [.lit (.bool false)], args := [d1, d2, d3, d4] }
  | _ => none }
def AluDoesWrongFalsely : Prop := aluDoesRow.holds Try.pinned (OpenSpec.ofChange aluDoesWrong)

/-- 'swingbridgelaw07.AluTests': WHATEVER THE INPUT: true; the input reads as it did. -/
def aluTestsSpec : ChangeSpec := { name := "aluTests", fn := fun _ => fun
  | [d1, d2, d3, d4] => { results := [.lit (.bool true)], args := [d1, d2, d3, d4] }
  | _ => none }
def aluTestsRow : OpenClaim := { program := "ytbahecbimpiicaa", sum := "baf9d04599dbf57e3570c1dc273e561aea62f95341afc930af51943fa50ac00b", func := "swingbridge/swingbridgelaw07.AluTests", spec := "aluTests", apart := false }
def AluTestsSaid : Prop := aluTestsRow.holds Try.pinned (OpenSpec.ofChange aluTestsSpec)

/-- ITS FALSE NEIGHBOUR: 'it returns false'. Refute it at one input. -/
def aluTestsWrong : ChangeSpec := { name := "aluTests", fn := fun _ => fun
  | [d1, d2, d3, d4] => { results := [.lit (.bool false)], args := [d1, d2, d3, d4] }
  | _ => none }
def AluTestsWrongFalsely : Prop := aluTestsRow.holds Try.pinned (OpenSpec.ofChange aluTestsWrong)

/-- 'swingbridgelaw07.AluBack': WHATEVER THE INPUT: true; the input reads as it did. -/
def aluBackSpec : ChangeSpec := { name := "aluBack", fn := fun _ => fun
  | [d1, d2, d3] => { results := [.lit (.bool true)], args := [d1, d2, d3] }
  | _ => none }
def aluBackRow : OpenClaim := { program := "ytbahecbimpiicaa", sum := "baf9d04599dbf57e3570c1dc273e561aea62f95341afc930af51943fa50ac00b", func := "swingbridge/swingbridgelaw07.AluBack", spec := "aluBack", apart := false }
def AluBackSaid : Prop := aluBackRow.holds Try.pinned (OpenSpec.ofChange aluBackSpec)

/-- ITS FALSE NEIGHBOUR: 'it returns false'. Refute it at one input. -/
def aluBackWrong : ChangeSpec := { name := "aluBack", fn := fun _ => fun
  | [d1, d2, d3] => { results := [.lit (.bool false)], args := [d1, d2, d3] }
  | _ => none }
def AluBackWrongFalsely : Prop := aluBackRow.holds Try.pinned (OpenSpec.ofChange aluBackWrong)

/-- 'swingbridgelaw07.AluLow': WHATEVER THE INPUT: true; the input reads as it did. -/
def aluLowSpec : ChangeSpec := { name := "aluLow", fn := fun _ => fun
  | [d1, d2, d3, d4, d5] => { results := [.lit (.bool true)], args := [d1, d2, d3, d4, d5] }
  | _ => none }
def aluLowRow : OpenClaim := { program := "ytbahecbimpiicaa", sum := "baf9d04599dbf57e3570c1dc273e561aea62f95341afc930af51943fa50ac00b", func := "swingbridge/swingbridgelaw07.AluLow", spec := "aluLow", apart := false }
def AluLowSaid : Prop := aluLowRow.holds Try.pinned (OpenSpec.ofChange aluLowSpec)

/-- ITS FALSE NEIGHBOUR: 'it returns false'. Refute it at one input. -/
def aluLowWrong : ChangeSpec := { name := "aluLow", fn := fun _ => fun
  | [d1, d2, d3, d4, d5] => { results := [.lit (.bool false)], args := [d1, d2, d3, d4, d5] }
  | _ => none }
def AluLowWrongFalsely : Prop := aluLowRow.holds Try.pinned (OpenSpec.ofChange aluLowWrong)

/-- 'swingbridgelaw07.AluTurned': WHATEVER THE INPUT: true; the input reads as it did. -/
def aluTurnedSpec : ChangeSpec := { name := "aluTurned", fn := fun _ => fun
  | [d1, d2, d3] => { results := [.lit (.bool true)], args := [d1, d2, d3] }
  | _ => none }
def aluTurnedRow : OpenClaim := { program := "ytbahecbimpiicaa", sum := "baf9d04599dbf57e3570c1dc273e561aea62f95341afc930af51943fa50ac00b", func := "swingbridge/swingbridgelaw07.AluTurned", spec := "aluTurned", apart := false }
def AluTurnedSaid : Prop := aluTurnedRow.holds Try.pinned (OpenSpec.ofChange aluTurnedSpec)

/-- ITS FALSE NEIGHBOUR: 'it returns false'. Refute it at one input. -/
def aluTurnedWrong : ChangeSpec := { name := "aluTurned", fn := fun _ => fun
  | [d1, d2, d3] => { results := [.lit (.bool false)], args := [d1, d2, d3] }
  | _ => none }
def AluTurnedWrongFalsely : Prop := aluTurnedRow.holds Try.pinned (OpenSpec.ofChange aluTurnedWrong)

/-- 'swingbridgelaw07.AluSigned': WHATEVER THE INPUT: true; the input reads as it did. -/
def aluSignedSpec : ChangeSpec := { name := "aluSigned", fn := fun _ => fun
  | [d1, d2, d3] => { results := [.lit (.bool true)], args := [d1, d2, d3] }
  | _ => none }
def aluSignedRow : OpenClaim := { program := "ytbahecbimpiicaa", sum := "baf9d04599dbf57e3570c1dc273e561aea62f95341afc930af51943fa50ac00b", func := "swingbridge/swingbridgelaw07.AluSigned", spec := "aluSigned", apart := false }
def AluSignedSaid : Prop := aluSignedRow.holds Try.pinned (OpenSpec.ofChange aluSignedSpec)

/-- ITS FALSE NEIGHBOUR: 'it returns false'. Refute it at one input. -/
def aluSignedWrong : ChangeSpec := { name := "aluSigned", fn := fun _ => fun
  | [d1, d2, d3] => { results := [.lit (.bool false)], args := [d1, d2, d3] }
  | _ => none }
def AluSignedWrongFalsely : Prop := aluSignedRow.holds Try.pinned (OpenSpec.ofChange aluSignedWrong)

/-- 'swingbridgelaw07.AluShifts': WHATEVER THE INPUT: true; the input reads as it did. -/
def aluShiftsSpec : ChangeSpec := { name := "aluShifts", fn := fun _ => fun
  | [d1, d2, d3, d4] => { results := [.lit (.bool true)], args := [d1, d2, d3, d4] }
  | _ => none }
def aluShiftsRow : OpenClaim := { program := "ytbahecbimpiicaa", sum := "baf9d04599dbf57e3570c1dc273e561aea62f95341afc930af51943fa50ac00b", func := "swingbridge/swingbridgelaw07.AluShifts", spec := "aluShifts", apart := false }
def AluShiftsSaid : Prop := aluShiftsRow.holds Try.pinned (OpenSpec.ofChange aluShiftsSpec)

/-- ITS FALSE NEIGHBOUR: 'it returns false'. Refute it at one input. -/
def aluShiftsWrong : ChangeSpec := { name := "aluShifts", fn := fun _ => fun
  | [d1, d2, d3, d4] => { results := [.lit (.bool false)], args := [d1, d2, d3, d4] }
  | _ => none }
def AluShiftsWrongFalsely : Prop := aluShiftsRow.holds Try.pinned (OpenSpec.ofChange aluShiftsWrong)

/-- 'swingbridgelaw07.AluBits': WHATEVER THE INPUT: true; the input reads as it did. -/
def aluBitsSpec : ChangeSpec := { name := "aluBits", fn := fun _ => fun
  | [d1, d2, d3] => { results := [.lit (.bool true)], args := [d1, d2, d3] }
  | _ => none }
def aluBitsRow : OpenClaim := { program := "ytbahecbimpiicaa", sum := "baf9d04599dbf57e3570c1dc273e561aea62f95341afc930af51943fa50ac00b", func := "swingbridge/swingbridgelaw07.AluBits", spec := "aluBits", apart := false }
def AluBitsSaid : Prop := aluBitsRow.holds Try.pinned (OpenSpec.ofChange aluBitsSpec)

/-- ITS FALSE NEIGHBOUR: 'it returns false'. Refute it at one input. -/
def aluBitsWrong : ChangeSpec := { name := "aluBits", fn := fun _ => fun
  | [d1, d2, d3] => { results := [.lit (.bool false)], args := [d1, d2, d3] }
  | _ => none }
def AluBitsWrongFalsely : Prop := aluBitsRow.holds Try.pinned (OpenSpec.ofChange aluBitsWrong)

/- THE SECOND FORM. 'bulk': how many values and letters a reading holds, each counted each time it is reached (what is shared counts as often as it is met; a slice's spare places count too). A statement '..UptoSaid' is the law's where the arguments, and the package variables that the reading takes, are together of bulk at most 1048576: NARROWER than '..Said'. Prove '..Said' where nothing that the law and all that it calls make is longer than what came in: it says more and counts as full. Else prove '..UptoSaid'. A law counts once. -/
mutual
def uptoBulk {H : Type} : DataW H → Nat
  | .lit (.string bytes) => bytes.length + 1
  | .lit _ => 1
  | .nil => 1
  | .ptr d => uptoBulk d + 1
  | .slice elems spare => uptoBulkAll elems + uptoBulkAll spare + 1
  | .agg parts => uptoBulkAll parts + 1
  | .iface _ d => uptoBulk d + 1
  | .map entries => uptoBulkEntries entries + 1
  | .held _ => 1
def uptoBulkAll {H : Type} : List (DataW H) → Nat
  | [] => 0
  | d :: r => uptoBulk d + uptoBulkAll r
def uptoBulkEntries {H : Type} : List (Lit × DataW H) → Nat
  | [] => 0
  | x :: r => uptoBulkEntry x + uptoBulkEntries r
def uptoBulkEntry {H : Type} : Lit × DataW H → Nat
  | (.string bytes, d) => bytes.length + uptoBulk d + 1
  | (_, d) => uptoBulk d + 1
 end
def uptoSmall : (H : Type) → List (DataW H) → Bool := fun _ ds => decide (uptoBulkAll ds ≤ 1048576)
def OpenSpec.upto (s : _root_.Go.ChangeSpec) : _root_.Go.OpenSpec := { _root_.Go.OpenSpec.ofChange s with cond := some uptoSmall }

/-- 'swingbridgelaw07.AluDoes', WHERE WHAT IT READS IS OF BULK AT MOST 1048576: true; the input reads as it did. -/
def aluDoesUptoRow : OpenClaim := { program := "ytbahecbimpiicaa", sum := "baf9d04599dbf57e3570c1dc273e561aea62f95341afc930af51943fa50ac00b", func := "swingbridge/swingbridgelaw07.AluDoes", spec := "aluDoes", apart := false, narrowed := true }
def AluDoesUptoSaid : Prop := aluDoesUptoRow.holds Try.pinned (OpenSpec.upto aluDoesSpec)

/-- 'swingbridgelaw07.AluTests', WHERE WHAT IT READS IS OF BULK AT MOST 1048576: true; the input reads as it did. -/
def aluTestsUptoRow : OpenClaim := { program := "ytbahecbimpiicaa", sum := "baf9d04599dbf57e3570c1dc273e561aea62f95341afc930af51943fa50ac00b", func := "swingbridge/swingbridgelaw07.AluTests", spec := "aluTests", apart := false, narrowed := true }
def AluTestsUptoSaid : Prop := aluTestsUptoRow.holds Try.pinned (OpenSpec.upto aluTestsSpec)

/-- 'swingbridgelaw07.AluBack', WHERE WHAT IT READS IS OF BULK AT MOST 1048576: true; the input reads as it did. -/
def aluBackUptoRow : OpenClaim := { program := "ytbahecbimpiicaa", sum := "baf9d04599dbf57e3570c1dc273e561aea62f95341afc930af51943fa50ac00b", func := "swingbridge/swingbridgelaw07.AluBack", spec := "aluBack", apart := false, narrowed := true }
def AluBackUptoSaid : Prop := aluBackUptoRow.holds Try.pinned (OpenSpec.upto aluBackSpec)

/-- 'swingbridgelaw07.AluLow', WHERE WHAT IT READS IS OF BULK AT MOST 1048576: true; the input reads as it did. -/
def aluLowUptoRow : OpenClaim := { program := "ytbahecbimpiicaa", sum := "baf9d04599dbf57e3570c1dc273e561aea62f95341afc930af51943fa50ac00b", func := "swingbridge/swingbridgelaw07.AluLow", spec := "aluLow", apart := false, narrowed := true }
def AluLowUptoSaid : Prop := aluLowUptoRow.holds Try.pinned (OpenSpec.upto aluLowSpec)

/-- 'swingbridgelaw07.AluTurned', WHERE WHAT IT READS IS OF BULK AT MOST 1048576: true; the input reads as it did. -/
def aluTurnedUptoRow : OpenClaim := { program := "ytbahecbimpiicaa", sum := "baf9d04599dbf57e3570c1dc273e561aea62f95341afc930af51943fa50ac00b", func := "swingbridge/swingbridgelaw07.AluTurned", spec := "aluTurned", apart := false, narrowed := true }
def AluTurnedUptoSaid : Prop := aluTurnedUptoRow.holds Try.pinned (OpenSpec.upto aluTurnedSpec)

/-- 'swingbridgelaw07.AluSigned', WHERE WHAT IT READS IS OF BULK AT MOST 1048576: true; the input reads as it did. -/
def aluSignedUptoRow : OpenClaim := { program := "ytbahecbimpiicaa", sum := "baf9d04599dbf57e3570c1dc273e561aea62f95341afc930af51943fa50ac00b", func := "swingbridge/swingbridgelaw07.AluSigned", spec := "aluSigned", apart := false, narrowed := true }
def AluSignedUptoSaid : Prop := aluSignedUptoRow.holds Try.pinned (OpenSpec.upto aluSignedSpec)

/-- 'swingbridgelaw07.AluShifts', WHERE WHAT IT READS IS OF BULK AT MOST 1048576: true; the input reads as it did. -/
def aluShiftsUptoRow : OpenClaim := { program := "ytbahecbimpiicaa", sum := "baf9d04599dbf57e3570c1dc273e561aea62f95341afc930af51943fa50ac00b", func := "swingbridge/swingbridgelaw07.AluShifts", spec := "aluShifts", apart := false, narrowed := true }
def AluShiftsUptoSaid : Prop := aluShiftsUptoRow.holds Try.pinned (OpenSpec.upto aluShiftsSpec)

/-- 'swingbridgelaw07.AluBits', WHERE WHAT IT READS IS OF BULK AT MOST 1048576: true; the input reads as it did. -/
def aluBitsUptoRow : OpenClaim := { program := "ytbahecbimpiicaa", sum := "baf9d04599dbf57e3570c1dc273e561aea62f95341afc930af51943fa50ac00b", func := "swingbridge/swingbridgelaw07.AluBits", spec := "aluBits", apart := false, narrowed := true }
def AluBitsUptoSaid : Prop := aluBitsUptoRow.holds Try.pinned (OpenSpec.upto aluBitsSpec)

end Rows
end Go.Proofs.Ytbahecbimpiicaa
