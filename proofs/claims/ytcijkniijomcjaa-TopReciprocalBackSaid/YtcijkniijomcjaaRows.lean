/-
  No cell of these rows narrows 'for every input' (looked for: loops, veiled, ifaces, maps, wideKeys, modest, calm, conditions, laid).
  DERIVED. THE GIVEN ROWS OF THIS SEAT. 8 by the template 'for every input the law returns true; each argument reads behind the call as it read before'; 0 by the template 'total and deterministic' (their statements: YtcijkniijomcjaaTotals.lean).
  GIVEN WITH THE SEED: the statements are not yours to turn. If you find one false, say at which input.
  Laid BY PROGRAM, IN A SANDBOX (cutbox-rows.mjs): the forced cells as the released guide's own fill.sh prints them over the translation 4f66b74e5a41cdcf… (all of the seat's roots in one cut). By AI agents, Wed Nov 11 2026. No macro, syntax, notation, axiom, sorry.
-/
import Derived.Test.YtcijkniijomcjaaChecked
import GoSem.Claim
import GoSem.ClaimJoined
import GoSem.ClaimMapViews
import Derived.JoinedTies
import Derived.KernelRfl
namespace Go.Proofs.Ytcijkniijomcjaa
/- THE CELL 'sum', in the pinned program and in every row, IS THE sha256 OF THE DUMP (.gsa) THAT YtcijkniijomcjaaProg.lean LOADS. Nothing in Lean hashes anything: it is a label: what it is worth is what the hold of that sum in a sandbox is worth. -/
noncomputable def Try.pinned : Pinned := { name := "ytcijkniijomcjaa", sum := "4f66b74e5a41cdcfaf6791ad461b3b12ba939b385ad90c73c5aeaff2fa4c2e69", checked := Try.checked }
namespace Rows
def none {H : Type} : Left H := { results := [], args := [] }

/-- 'couplantlaw03.TraceMatrices': WHATEVER THE INPUT: true; the input reads as it did. -/
def traceMatricesSpec : ChangeSpec := { name := "traceMatrices", fn := fun _ => fun
  | [d1, d2] => { results := [.lit (.bool true)], args := [d1, d2] }
  | _ => none }
def traceMatricesRow : OpenClaim := { program := "ytcijkniijomcjaa", sum := "4f66b74e5a41cdcfaf6791ad461b3b12ba939b385ad90c73c5aeaff2fa4c2e69", func := "couplant/couplantlaw03.TraceMatrices", spec := "traceMatrices", inPlace := ["math.Float64bits", "math.Float32bits"], unfollowed := true, recurses := true, apart := false }
def TraceMatricesSaid : Prop := traceMatricesRow.holds Try.pinned (OpenSpec.ofChange traceMatricesSpec)

/-- ITS FALSE NEIGHBOUR: 'it returns false'. Refute it at one input. -/
def traceMatricesWrong : ChangeSpec := { name := "traceMatrices", fn := fun _ => fun
  | [d1, d2] => { results := [.lit (.bool false)], args := [d1, d2] }
  | _ => none }
def TraceMatricesWrongFalsely : Prop := traceMatricesRow.holds Try.pinned (OpenSpec.ofChange traceMatricesWrong)

/-- 'couplantlaw03.TraceReplaced': WHATEVER THE INPUT: true; the input reads as it did. -/
def traceReplacedSpec : ChangeSpec := { name := "traceReplaced", fn := fun _ => fun
  | [d1, d2, d3] => { results := [.lit (.bool true)], args := [d1, d2, d3] }
  | _ => none }
def traceReplacedRow : OpenClaim := { program := "ytcijkniijomcjaa", sum := "4f66b74e5a41cdcfaf6791ad461b3b12ba939b385ad90c73c5aeaff2fa4c2e69", func := "couplant/couplantlaw03.TraceReplaced", spec := "traceReplaced", inPlace := ["math.Float64bits", "math.Float32bits"], unfollowed := true, recurses := true, apart := false }
def TraceReplacedSaid : Prop := traceReplacedRow.holds Try.pinned (OpenSpec.ofChange traceReplacedSpec)

/-- ITS FALSE NEIGHBOUR: 'it returns false'. Refute it at one input. -/
def traceReplacedWrong : ChangeSpec := { name := "traceReplaced", fn := fun _ => fun
  | [d1, d2, d3] => { results := [.lit (.bool false)], args := [d1, d2, d3] }
  | _ => none }
def TraceReplacedWrongFalsely : Prop := traceReplacedRow.holds Try.pinned (OpenSpec.ofChange traceReplacedWrong)

/-- 'couplantlaw03.TraceAverages': WHATEVER THE INPUT: true; the input reads as it did. -/
def traceAveragesSpec : ChangeSpec := { name := "traceAverages", fn := fun _ => fun
  | [d] => { results := [.lit (.bool true)], args := [d] }
  | _ => none }
def traceAveragesRow : OpenClaim := { program := "ytcijkniijomcjaa", sum := "4f66b74e5a41cdcfaf6791ad461b3b12ba939b385ad90c73c5aeaff2fa4c2e69", func := "couplant/couplantlaw03.TraceAverages", spec := "traceAverages", inPlace := ["math.Float64bits", "math.Float32bits"], unfollowed := true, recurses := true, apart := false }
def TraceAveragesSaid : Prop := traceAveragesRow.holds Try.pinned (OpenSpec.ofChange traceAveragesSpec)

/-- ITS FALSE NEIGHBOUR: 'it returns false'. Refute it at one input. -/
def traceAveragesWrong : ChangeSpec := { name := "traceAverages", fn := fun _ => fun
  | [d] => { results := [.lit (.bool false)], args := [d] }
  | _ => none }
def TraceAveragesWrongFalsely : Prop := traceAveragesRow.holds Try.pinned (OpenSpec.ofChange traceAveragesWrong)

/-- 'couplantlaw03.TraceFrameReads': WHATEVER THE INPUT: true; the input reads as it did. -/
def traceFrameReadsSpec : ChangeSpec := { name := "traceFrameReads", fn := fun _ => fun
  | [d] => { results := [.lit (.bool true)], args := [d] }
  | _ => none }
def traceFrameReadsRow : OpenClaim := { program := "ytcijkniijomcjaa", sum := "4f66b74e5a41cdcfaf6791ad461b3b12ba939b385ad90c73c5aeaff2fa4c2e69", func := "couplant/couplantlaw03.TraceFrameReads", spec := "traceFrameReads", inPlace := ["math.Float64bits", "math.Float32bits"], unfollowed := true, recurses := true, apart := false }
def TraceFrameReadsSaid : Prop := traceFrameReadsRow.holds Try.pinned (OpenSpec.ofChange traceFrameReadsSpec)

/-- ITS FALSE NEIGHBOUR: 'it returns false'. Refute it at one input. -/
def traceFrameReadsWrong : ChangeSpec := { name := "traceFrameReads", fn := fun _ => fun
  | [d] => { results := [.lit (.bool false)], args := [d] }
  | _ => none }
def TraceFrameReadsWrongFalsely : Prop := traceFrameReadsRow.holds Try.pinned (OpenSpec.ofChange traceFrameReadsWrong)

/-- 'couplantlaw03.TraceElements': WHATEVER THE INPUT: true; the input reads as it did. -/
def traceElementsSpec : ChangeSpec := { name := "traceElements", fn := fun _ => fun
  | [d1, d2] => { results := [.lit (.bool true)], args := [d1, d2] }
  | _ => none }
def traceElementsRow : OpenClaim := { program := "ytcijkniijomcjaa", sum := "4f66b74e5a41cdcfaf6791ad461b3b12ba939b385ad90c73c5aeaff2fa4c2e69", func := "couplant/couplantlaw03.TraceElements", spec := "traceElements", inPlace := ["math.Float64bits"], unfollowed := true, recurses := true, apart := false }
def TraceElementsSaid : Prop := traceElementsRow.holds Try.pinned (OpenSpec.ofChange traceElementsSpec)

/-- ITS FALSE NEIGHBOUR: 'it returns false'. Refute it at one input. -/
def traceElementsWrong : ChangeSpec := { name := "traceElements", fn := fun _ => fun
  | [d1, d2] => { results := [.lit (.bool false)], args := [d1, d2] }
  | _ => none }
def TraceElementsWrongFalsely : Prop := traceElementsRow.holds Try.pinned (OpenSpec.ofChange traceElementsWrong)

/-- 'couplantlaw03.TraceTurned': WHATEVER THE INPUT: true; the input reads as it did. -/
def traceTurnedSpec : ChangeSpec := { name := "traceTurned", fn := fun _ => fun
  | [d1, d2] => { results := [.lit (.bool true)], args := [d1, d2] }
  | _ => none }
def traceTurnedRow : OpenClaim := { program := "ytcijkniijomcjaa", sum := "4f66b74e5a41cdcfaf6791ad461b3b12ba939b385ad90c73c5aeaff2fa4c2e69", func := "couplant/couplantlaw03.TraceTurned", spec := "traceTurned", inPlace := ["math.Float64bits", "math.Float32bits"], unfollowed := true, recurses := true, apart := false }
def TraceTurnedSaid : Prop := traceTurnedRow.holds Try.pinned (OpenSpec.ofChange traceTurnedSpec)

/-- ITS FALSE NEIGHBOUR: 'it returns false'. Refute it at one input. -/
def traceTurnedWrong : ChangeSpec := { name := "traceTurned", fn := fun _ => fun
  | [d1, d2] => { results := [.lit (.bool false)], args := [d1, d2] }
  | _ => none }
def TraceTurnedWrongFalsely : Prop := traceTurnedRow.holds Try.pinned (OpenSpec.ofChange traceTurnedWrong)

/-- 'couplantlaw03.TraceFrames': WHATEVER THE INPUT: true; the input reads as it did. -/
def traceFramesSpec : ChangeSpec := { name := "traceFrames", fn := fun _ => fun
  | [d1, d2, d3] => { results := [.lit (.bool true)], args := [d1, d2, d3] }
  | _ => none }
def traceFramesRow : OpenClaim := { program := "ytcijkniijomcjaa", sum := "4f66b74e5a41cdcfaf6791ad461b3b12ba939b385ad90c73c5aeaff2fa4c2e69", func := "couplant/couplantlaw03.TraceFrames", spec := "traceFrames", inPlace := ["math.Float64bits", "math.Float32bits"], unfollowed := true, recurses := true, apart := false }
def TraceFramesSaid : Prop := traceFramesRow.holds Try.pinned (OpenSpec.ofChange traceFramesSpec)

/-- ITS FALSE NEIGHBOUR: 'it returns false'. Refute it at one input. -/
def traceFramesWrong : ChangeSpec := { name := "traceFrames", fn := fun _ => fun
  | [d1, d2, d3] => { results := [.lit (.bool false)], args := [d1, d2, d3] }
  | _ => none }
def TraceFramesWrongFalsely : Prop := traceFramesRow.holds Try.pinned (OpenSpec.ofChange traceFramesWrong)

/-- 'couplanttop.TopReciprocalBack': WHATEVER THE INPUT: true; the input reads as it did. -/
def topReciprocalBackSpec : ChangeSpec := { name := "topReciprocalBack", fn := fun _ => fun
  | [d1, d2] => { results := [.lit (.bool true)], args := [d1, d2] }
  | _ => none }
def topReciprocalBackRow : OpenClaim := { program := "ytcijkniijomcjaa", sum := "4f66b74e5a41cdcfaf6791ad461b3b12ba939b385ad90c73c5aeaff2fa4c2e69", func := "couplant/couplanttop.TopReciprocalBack", spec := "topReciprocalBack", inPlace := ["math.Float32bits"], unfollowed := true, recurses := true, apart := false }
def TopReciprocalBackSaid : Prop := topReciprocalBackRow.holds Try.pinned (OpenSpec.ofChange topReciprocalBackSpec)

/-- ITS FALSE NEIGHBOUR: 'it returns false'. Refute it at one input. -/
def topReciprocalBackWrong : ChangeSpec := { name := "topReciprocalBack", fn := fun _ => fun
  | [d1, d2] => { results := [.lit (.bool false)], args := [d1, d2] }
  | _ => none }
def TopReciprocalBackWrongFalsely : Prop := topReciprocalBackRow.holds Try.pinned (OpenSpec.ofChange topReciprocalBackWrong)

/- THE SECOND FORM. 'bulk': how many values and letters a reading holds, each counted each time it is reached (what is shared counts as often as it is met; a slice's spare places count too). A statement '..UptoSaid' is the law's where the arguments, and the package variables that the reading takes, are together of bulk at most 1048576: NARROWER than '..Said'. Prove '..Said' where nothing that the law and all that it calls make is longer than what came in: it says more and counts as full. Else prove '..UptoSaid'. A law counts once. -/
mutual
def uptoBulk {H : Type} : DataW H → Nat
  | .lit (.string bytes) => bytes.length + 1
  | .lit _ => 1
  | .nil => 1
  | .ptr d => uptoBulk d + 1
  | .slice elems spare => uptoBulkAll elems + uptoBulkAll spare + 1
  | .agg parts => uptoBulkAll parts + 1
  | .iface _ d => uptoBulk d + 1
  | .map entries => uptoBulkEntries entries + 1
  | .held _ => 1
def uptoBulkAll {H : Type} : List (DataW H) → Nat
  | [] => 0
  | d :: r => uptoBulk d + uptoBulkAll r
def uptoBulkEntries {H : Type} : List (Lit × DataW H) → Nat
  | [] => 0
  | x :: r => uptoBulkEntry x + uptoBulkEntries r
def uptoBulkEntry {H : Type} : Lit × DataW H → Nat
  | (.string bytes, d) => bytes.length + uptoBulk d + 1
  | (_, d) => uptoBulk d + 1
 end
def uptoSmall : (H : Type) → List (DataW H) → Bool := fun _ ds => decide (uptoBulkAll ds ≤ 1048576)
def OpenSpec.upto (s : _root_.Go.ChangeSpec) : _root_.Go.OpenSpec := { _root_.Go.OpenSpec.ofChange s with cond := some uptoSmall }

/-- 'couplantlaw03.TraceMatrices', WHERE WHAT IT READS IS OF BULK AT MOST 1048576: true; the input reads as it did. -/
def traceMatricesUptoRow : OpenClaim := { program := "ytcijkniijomcjaa", sum := "4f66b74e5a41cdcfaf6791ad461b3b12ba939b385ad90c73c5aeaff2fa4c2e69", func := "couplant/couplantlaw03.TraceMatrices", spec := "traceMatrices", inPlace := ["math.Float64bits", "math.Float32bits"], unfollowed := true, recurses := true, apart := false, narrowed := true }
def TraceMatricesUptoSaid : Prop := traceMatricesUptoRow.holds Try.pinned (OpenSpec.upto traceMatricesSpec)

/-- 'couplantlaw03.TraceReplaced', WHERE WHAT IT READS IS OF BULK AT MOST 1048576: true; the input reads as it did. -/
def traceReplacedUptoRow : OpenClaim := { program := "ytcijkniijomcjaa", sum := "4f66b74e5a41cdcfaf6791ad461b3b12ba939b385ad90c73c5aeaff2fa4c2e69", func := "couplant/couplantlaw03.TraceReplaced", spec := "traceReplaced", inPlace := ["math.Float64bits", "math.Float32bits"], unfollowed := true, recurses := true, apart := false, narrowed := true }
def TraceReplacedUptoSaid : Prop := traceReplacedUptoRow.holds Try.pinned (OpenSpec.upto traceReplacedSpec)

/-- 'couplantlaw03.TraceAverages', WHERE WHAT IT READS IS OF BULK AT MOST 1048576: true; the input reads as it did. -/
def traceAveragesUptoRow : OpenClaim := { program := "ytcijkniijomcjaa", sum := "4f66b74e5a41cdcfaf6791ad461b3b12ba939b385ad90c73c5aeaff2fa4c2e69", func := "couplant/couplantlaw03.TraceAverages", spec := "traceAverages", inPlace := ["math.Float64bits", "math.Float32bits"], unfollowed := true, recurses := true, apart := false, narrowed := true }
def TraceAveragesUptoSaid : Prop := traceAveragesUptoRow.holds Try.pinned (OpenSpec.upto traceAveragesSpec)

/-- 'couplantlaw03.TraceFrameReads', WHERE WHAT IT READS IS OF BULK AT MOST 1048576: true; the input reads as it did. -/
def traceFrameReadsUptoRow : OpenClaim := { program := "ytcijkniijomcjaa", sum := "4f66b74e5a41cdcfaf6791ad461b3b12ba939b385ad90c73c5aeaff2fa4c2e69", func := "couplant/couplantlaw03.TraceFrameReads", spec := "traceFrameReads", inPlace := ["math.Float64bits", "math.Float32bits"], unfollowed := true, recurses := true, apart := false, narrowed := true }
def TraceFrameReadsUptoSaid : Prop := traceFrameReadsUptoRow.holds Try.pinned (OpenSpec.upto traceFrameReadsSpec)

/-- 'couplantlaw03.TraceElements', WHERE WHAT IT READS IS OF BULK AT MOST 1048576: true; the input reads as it did. -/
def traceElementsUptoRow : OpenClaim := { program := "ytcijkniijomcjaa", sum := "4f66b74e5a41cdcfaf6791ad461b3b12ba939b385ad90c73c5aeaff2fa4c2e69", func := "couplant/couplantlaw03.TraceElements", spec := "traceElements", inPlace := ["math.Float64bits"], unfollowed := true, recurses := true, apart := false, narrowed := true }
def TraceElementsUptoSaid : Prop := traceElementsUptoRow.holds Try.pinned (OpenSpec.upto traceElementsSpec)

/-- 'couplantlaw03.TraceTurned', WHERE WHAT IT READS IS OF BULK AT MOST 1048576: true; the input reads as it did. -/
def traceTurnedUptoRow : OpenClaim := { program := "ytcijkniijomcjaa", sum := "4f66b74e5a41cdcfaf6791ad461b3b12ba939b385ad90c73c5aeaff2fa4c2e69", func := "couplant/couplantlaw03.TraceTurned", spec := "traceTurned", inPlace := ["math.Float64bits", "math.Float32bits"], unfollowed := true, recurses := true, apart := false, narrowed := true }
def TraceTurnedUptoSaid : Prop := traceTurnedUptoRow.holds Try.pinned (OpenSpec.upto traceTurnedSpec)

/-- 'couplantlaw03.TraceFrames', WHERE WHAT IT READS IS OF BULK AT MOST 1048576: true; the input reads as it did. -/
def traceFramesUptoRow : OpenClaim := { program := "ytcijkniijomcjaa", sum := "4f66b74e5a41cdcfaf6791ad461b3b12ba939b385ad90c73c5aeaff2fa4c2e69", func := "couplant/couplantlaw03.TraceFrames", spec := "traceFrames", inPlace := ["math.Float64bits", "math.Float32bits"], unfollowed := true, recurses := true, apart := false, narrowed := true }
def TraceFramesUptoSaid : Prop := traceFramesUptoRow.holds Try.pinned (OpenSpec.upto traceFramesSpec)

/-- 'couplanttop.TopReciprocalBack', WHERE WHAT IT READS IS OF BULK AT MOST 1048576: true; the input reads as it did. -/
def topReciprocalBackUptoRow : OpenClaim := { program := "ytcijkniijomcjaa", sum := "4f66b74e5a41cdcfaf6791ad461b3b12ba939b385ad90c73c5aeaff2fa4c2e69", func := "couplant/couplanttop.TopReciprocalBack", spec := "topReciprocalBack", inPlace := ["math.Float32bits"], unfollowed := true, recurses := true, apart := false, narrowed := true }
def TopReciprocalBackUptoSaid : Prop := topReciprocalBackUptoRow.holds Try.pinned (OpenSpec.upto topReciprocalBackSpec)

end Rows
end Go.Proofs.Ytcijkniijomcjaa
