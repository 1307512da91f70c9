/-
  No cell of these rows narrows 'for every input' (looked for: loops, veiled, ifaces, maps, wideKeys, modest, calm, conditions, laid).
  DERIVED. THE GIVEN ROWS OF THIS SEAT. 16 by the template 'for every input the law returns true; each argument reads behind the call as it read before'; 0 by the template 'total and deterministic' (their statements: YtnfmfkejhgbipaaTotals.lean).
  GIVEN WITH THE SEED: the statements are not yours to turn. If you find one false, say at which input.
  Laid BY PROGRAM, IN A SANDBOX (cutbox-rows.mjs): the forced cells as the released guide's own fill.sh prints them over the translation 340b8986464518d8… (all of the seat's roots in one cut). By AI agents, Wed Nov 11 2026. No macro, syntax, notation, axiom, sorry.
-/
import Derived.Test.YtnfmfkejhgbipaaChecked
import GoSem.Claim
import GoSem.ClaimJoined
import GoSem.ClaimMapViews
import Derived.JoinedTies
import Derived.KernelRfl
namespace Go.Proofs.Ytnfmfkejhgbipaa
/- THE CELL 'sum', in the pinned program and in every row, IS THE sha256 OF THE DUMP (.gsa) THAT YtnfmfkejhgbipaaProg.lean LOADS. Nothing in Lean hashes anything: it is a label: what it is worth is what the hold of that sum in a sandbox is worth. -/
noncomputable def Try.pinned : Pinned := { name := "ytnfmfkejhgbipaa", sum := "340b8986464518d83eebbd18c048f1a79538fb757e43bcf0231c4c1fb058ff23", checked := Try.checked }
namespace Rows
def none {H : Type} : Left H := { results := [], args := [] }

/-- 'couplantlaw01.RayCrossings': WHATEVER THE INPUT: true; the input reads as it did. -/
def rayCrossingsSpec : ChangeSpec := { name := "rayCrossings", fn := fun _ => fun
  | [d] => { results := [.lit (.bool true)], args := [d] }
  | _ => none }
def rayCrossingsRow : OpenClaim := { program := "ytnfmfkejhgbipaa", sum := "340b8986464518d83eebbd18c048f1a79538fb757e43bcf0231c4c1fb058ff23", func := "couplant/couplantlaw01.RayCrossings", spec := "rayCrossings", unfollowed := true, recurses := true, apart := false }
def RayCrossingsSaid : Prop := rayCrossingsRow.holds Try.pinned (OpenSpec.ofChange rayCrossingsSpec)

/-- ITS FALSE NEIGHBOUR: 'it returns false'. Refute it at one input. -/
def rayCrossingsWrong : ChangeSpec := { name := "rayCrossings", fn := fun _ => fun
  | [d] => { results := [.lit (.bool false)], args := [d] }
  | _ => none }
def RayCrossingsWrongFalsely : Prop := rayCrossingsRow.holds Try.pinned (OpenSpec.ofChange rayCrossingsWrong)

/-- 'couplantlaw01.RaySymmetric': WHATEVER THE INPUT: true; the input reads as it did. -/
def raySymmetricSpec : ChangeSpec := { name := "raySymmetric", fn := fun _ => fun
  | [d1, d2] => { results := [.lit (.bool true)], args := [d1, d2] }
  | _ => none }
def raySymmetricRow : OpenClaim := { program := "ytnfmfkejhgbipaa", sum := "340b8986464518d83eebbd18c048f1a79538fb757e43bcf0231c4c1fb058ff23", func := "couplant/couplantlaw01.RaySymmetric", spec := "raySymmetric", unfollowed := true, recurses := true, apart := false }
def RaySymmetricSaid : Prop := raySymmetricRow.holds Try.pinned (OpenSpec.ofChange raySymmetricSpec)

/-- ITS FALSE NEIGHBOUR: 'it returns false'. Refute it at one input. -/
def raySymmetricWrong : ChangeSpec := { name := "raySymmetric", fn := fun _ => fun
  | [d1, d2] => { results := [.lit (.bool false)], args := [d1, d2] }
  | _ => none }
def RaySymmetricWrongFalsely : Prop := raySymmetricRow.holds Try.pinned (OpenSpec.ofChange raySymmetricWrong)

/-- 'couplanttop.TopNoFasterWay': WHATEVER THE INPUT: true; the input reads as it did. -/
def topNoFasterWaySpec : ChangeSpec := { name := "topNoFasterWay", fn := fun _ => fun
  | [d1, d2, d3] => { results := [.lit (.bool true)], args := [d1, d2, d3] }
  | _ => none }
def topNoFasterWayRow : OpenClaim := { program := "ytnfmfkejhgbipaa", sum := "340b8986464518d83eebbd18c048f1a79538fb757e43bcf0231c4c1fb058ff23", func := "couplant/couplanttop.TopNoFasterWay", spec := "topNoFasterWay", unfollowed := true, recurses := true, apart := false }
def TopNoFasterWaySaid : Prop := topNoFasterWayRow.holds Try.pinned (OpenSpec.ofChange topNoFasterWaySpec)

/-- ITS FALSE NEIGHBOUR: 'it returns false'. Refute it at one input. -/
def topNoFasterWayWrong : ChangeSpec := { name := "topNoFasterWay", fn := fun _ => fun
  | [d1, d2, d3] => { results := [.lit (.bool false)], args := [d1, d2, d3] }
  | _ => none }
def TopNoFasterWayWrongFalsely : Prop := topNoFasterWayRow.holds Try.pinned (OpenSpec.ofChange topNoFasterWayWrong)

/-- 'couplantlaw01.RayModes': WHATEVER THE INPUT: true; the input reads as it did. -/
def rayModesSpec : ChangeSpec := { name := "rayModes", fn := fun _ => fun
  | [d1, d2] => { results := [.lit (.bool true)], args := [d1, d2] }
  | _ => none }
def rayModesRow : OpenClaim := { program := "ytnfmfkejhgbipaa", sum := "340b8986464518d83eebbd18c048f1a79538fb757e43bcf0231c4c1fb058ff23", func := "couplant/couplantlaw01.RayModes", spec := "rayModes", unfollowed := true, recurses := true, apart := false }
def RayModesSaid : Prop := rayModesRow.holds Try.pinned (OpenSpec.ofChange rayModesSpec)

/-- ITS FALSE NEIGHBOUR: 'it returns false'. Refute it at one input. -/
def rayModesWrong : ChangeSpec := { name := "rayModes", fn := fun _ => fun
  | [d1, d2] => { results := [.lit (.bool false)], args := [d1, d2] }
  | _ => none }
def RayModesWrongFalsely : Prop := rayModesRow.holds Try.pinned (OpenSpec.ofChange rayModesWrong)

/-- 'couplantlaw01.RayLegs': WHATEVER THE INPUT: true; the input reads as it did. -/
def rayLegsSpec : ChangeSpec := { name := "rayLegs", fn := fun _ => fun
  | [d1, d2, d3] => { results := [.lit (.bool true)], args := [d1, d2, d3] }
  | _ => none }
def rayLegsRow : OpenClaim := { program := "ytnfmfkejhgbipaa", sum := "340b8986464518d83eebbd18c048f1a79538fb757e43bcf0231c4c1fb058ff23", func := "couplant/couplantlaw01.RayLegs", spec := "rayLegs", unfollowed := true, recurses := true, apart := false }
def RayLegsSaid : Prop := rayLegsRow.holds Try.pinned (OpenSpec.ofChange rayLegsSpec)

/-- ITS FALSE NEIGHBOUR: 'it returns false'. Refute it at one input. -/
def rayLegsWrong : ChangeSpec := { name := "rayLegs", fn := fun _ => fun
  | [d1, d2, d3] => { results := [.lit (.bool false)], args := [d1, d2, d3] }
  | _ => none }
def RayLegsWrongFalsely : Prop := rayLegsRow.holds Try.pinned (OpenSpec.ofChange rayLegsWrong)

/-- 'couplantlaw01.RayTurns': WHATEVER THE INPUT: true; the input reads as it did. -/
def rayTurnsSpec : ChangeSpec := { name := "rayTurns", fn := fun _ => fun
  | [d] => { results := [.lit (.bool true)], args := [d] }
  | _ => none }
def rayTurnsRow : OpenClaim := { program := "ytnfmfkejhgbipaa", sum := "340b8986464518d83eebbd18c048f1a79538fb757e43bcf0231c4c1fb058ff23", func := "couplant/couplantlaw01.RayTurns", spec := "rayTurns", unfollowed := true, recurses := true, apart := false }
def RayTurnsSaid : Prop := rayTurnsRow.holds Try.pinned (OpenSpec.ofChange rayTurnsSpec)

/-- ITS FALSE NEIGHBOUR: 'it returns false'. Refute it at one input. -/
def rayTurnsWrong : ChangeSpec := { name := "rayTurns", fn := fun _ => fun
  | [d] => { results := [.lit (.bool false)], args := [d] }
  | _ => none }
def RayTurnsWrongFalsely : Prop := rayTurnsRow.holds Try.pinned (OpenSpec.ofChange rayTurnsWrong)

/-- 'couplantlaw01.RayEchoes': WHATEVER THE INPUT: true; the input reads as it did. -/
def rayEchoesSpec : ChangeSpec := { name := "rayEchoes", fn := fun _ => fun
  | [d] => { results := [.lit (.bool true)], args := [d] }
  | _ => none }
def rayEchoesRow : OpenClaim := { program := "ytnfmfkejhgbipaa", sum := "340b8986464518d83eebbd18c048f1a79538fb757e43bcf0231c4c1fb058ff23", func := "couplant/couplantlaw01.RayEchoes", spec := "rayEchoes", unfollowed := true, recurses := true, apart := false }
def RayEchoesSaid : Prop := rayEchoesRow.holds Try.pinned (OpenSpec.ofChange rayEchoesSpec)

/-- ITS FALSE NEIGHBOUR: 'it returns false'. Refute it at one input. -/
def rayEchoesWrong : ChangeSpec := { name := "rayEchoes", fn := fun _ => fun
  | [d] => { results := [.lit (.bool false)], args := [d] }
  | _ => none }
def RayEchoesWrongFalsely : Prop := rayEchoesRow.holds Try.pinned (OpenSpec.ofChange rayEchoesWrong)

/-- 'couplanttop.TopSnellPasses': WHATEVER THE INPUT: true; the input reads as it did. -/
def topSnellPassesSpec : ChangeSpec := { name := "topSnellPasses", fn := fun _ => fun
  | [d] => { results := [.lit (.bool true)], args := [d] }
  | _ => none }
def topSnellPassesRow : OpenClaim := { program := "ytnfmfkejhgbipaa", sum := "340b8986464518d83eebbd18c048f1a79538fb757e43bcf0231c4c1fb058ff23", func := "couplant/couplanttop.TopSnellPasses", spec := "topSnellPasses", unfollowed := true, recurses := true, apart := false }
def TopSnellPassesSaid : Prop := topSnellPassesRow.holds Try.pinned (OpenSpec.ofChange topSnellPassesSpec)

/-- ITS FALSE NEIGHBOUR: 'it returns false'. Refute it at one input. -/
def topSnellPassesWrong : ChangeSpec := { name := "topSnellPasses", fn := fun _ => fun
  | [d] => { results := [.lit (.bool false)], args := [d] }
  | _ => none }
def TopSnellPassesWrongFalsely : Prop := topSnellPassesRow.holds Try.pinned (OpenSpec.ofChange topSnellPassesWrong)

/-- 'couplantlaw01.RayWays': WHATEVER THE INPUT: true; the input reads as it did. -/
def rayWaysSpec : ChangeSpec := { name := "rayWays", fn := fun _ => fun
  | [d] => { results := [.lit (.bool true)], args := [d] }
  | _ => none }
def rayWaysRow : OpenClaim := { program := "ytnfmfkejhgbipaa", sum := "340b8986464518d83eebbd18c048f1a79538fb757e43bcf0231c4c1fb058ff23", func := "couplant/couplantlaw01.RayWays", spec := "rayWays", unfollowed := true, recurses := true, apart := false }
def RayWaysSaid : Prop := rayWaysRow.holds Try.pinned (OpenSpec.ofChange rayWaysSpec)

/-- ITS FALSE NEIGHBOUR: 'it returns false'. Refute it at one input. -/
def rayWaysWrong : ChangeSpec := { name := "rayWays", fn := fun _ => fun
  | [d] => { results := [.lit (.bool false)], args := [d] }
  | _ => none }
def RayWaysWrongFalsely : Prop := rayWaysRow.holds Try.pinned (OpenSpec.ofChange rayWaysWrong)

/-- 'couplantlaw01.RayCrosses': WHATEVER THE INPUT: true; the input reads as it did. -/
def rayCrossesSpec : ChangeSpec := { name := "rayCrosses", fn := fun _ => fun
  | [d1, d2] => { results := [.lit (.bool true)], args := [d1, d2] }
  | _ => none }
def rayCrossesRow : OpenClaim := { program := "ytnfmfkejhgbipaa", sum := "340b8986464518d83eebbd18c048f1a79538fb757e43bcf0231c4c1fb058ff23", func := "couplant/couplantlaw01.RayCrosses", spec := "rayCrosses", unfollowed := true, recurses := true, apart := false }
def RayCrossesSaid : Prop := rayCrossesRow.holds Try.pinned (OpenSpec.ofChange rayCrossesSpec)

/-- ITS FALSE NEIGHBOUR: 'it returns false'. Refute it at one input. -/
def rayCrossesWrong : ChangeSpec := { name := "rayCrosses", fn := fun _ => fun
  | [d1, d2] => { results := [.lit (.bool false)], args := [d1, d2] }
  | _ => none }
def RayCrossesWrongFalsely : Prop := rayCrossesRow.holds Try.pinned (OpenSpec.ofChange rayCrossesWrong)

/-- 'couplantlaw01.RayLeast': WHATEVER THE INPUT: true; the input reads as it did. -/
def rayLeastSpec : ChangeSpec := { name := "rayLeast", fn := fun _ => fun
  | [d1, d2] => { results := [.lit (.bool true)], args := [d1, d2] }
  | _ => none }
def rayLeastRow : OpenClaim := { program := "ytnfmfkejhgbipaa", sum := "340b8986464518d83eebbd18c048f1a79538fb757e43bcf0231c4c1fb058ff23", func := "couplant/couplantlaw01.RayLeast", spec := "rayLeast", unfollowed := true, recurses := true, apart := false }
def RayLeastSaid : Prop := rayLeastRow.holds Try.pinned (OpenSpec.ofChange rayLeastSpec)

/-- ITS FALSE NEIGHBOUR: 'it returns false'. Refute it at one input. -/
def rayLeastWrong : ChangeSpec := { name := "rayLeast", fn := fun _ => fun
  | [d1, d2] => { results := [.lit (.bool false)], args := [d1, d2] }
  | _ => none }
def RayLeastWrongFalsely : Prop := rayLeastRow.holds Try.pinned (OpenSpec.ofChange rayLeastWrong)

/-- 'couplantlaw01.RaySteep': WHATEVER THE INPUT: true; the input reads as it did. -/
def raySteepSpec : ChangeSpec := { name := "raySteep", fn := fun _ => fun
  | [d1, d2, d3] => { results := [.lit (.bool true)], args := [d1, d2, d3] }
  | _ => none }
def raySteepRow : OpenClaim := { program := "ytnfmfkejhgbipaa", sum := "340b8986464518d83eebbd18c048f1a79538fb757e43bcf0231c4c1fb058ff23", func := "couplant/couplantlaw01.RaySteep", spec := "raySteep", unfollowed := true, recurses := true, apart := false }
def RaySteepSaid : Prop := raySteepRow.holds Try.pinned (OpenSpec.ofChange raySteepSpec)

/-- ITS FALSE NEIGHBOUR: 'it returns false'. Refute it at one input. -/
def raySteepWrong : ChangeSpec := { name := "raySteep", fn := fun _ => fun
  | [d1, d2, d3] => { results := [.lit (.bool false)], args := [d1, d2, d3] }
  | _ => none }
def RaySteepWrongFalsely : Prop := raySteepRow.holds Try.pinned (OpenSpec.ofChange raySteepWrong)

/-- 'couplantlaw01.RayAngles': WHATEVER THE INPUT: true; the input reads as it did. -/
def rayAnglesSpec : ChangeSpec := { name := "rayAngles", fn := fun _ => fun
  | [d1, d2, d3] => { results := [.lit (.bool true)], args := [d1, d2, d3] }
  | _ => none }
def rayAnglesRow : OpenClaim := { program := "ytnfmfkejhgbipaa", sum := "340b8986464518d83eebbd18c048f1a79538fb757e43bcf0231c4c1fb058ff23", func := "couplant/couplantlaw01.RayAngles", spec := "rayAngles", unfollowed := true, recurses := true, apart := false }
def RayAnglesSaid : Prop := rayAnglesRow.holds Try.pinned (OpenSpec.ofChange rayAnglesSpec)

/-- ITS FALSE NEIGHBOUR: 'it returns false'. Refute it at one input. -/
def rayAnglesWrong : ChangeSpec := { name := "rayAngles", fn := fun _ => fun
  | [d1, d2, d3] => { results := [.lit (.bool false)], args := [d1, d2, d3] }
  | _ => none }
def RayAnglesWrongFalsely : Prop := rayAnglesRow.holds Try.pinned (OpenSpec.ofChange rayAnglesWrong)

/-- 'couplantlaw01.RaySnell': WHATEVER THE INPUT: true; the input reads as it did. -/
def raySnellSpec : ChangeSpec := { name := "raySnell", fn := fun _ => fun
  | [d1, d2, d3] => { results := [.lit (.bool true)], args := [d1, d2, d3] }
  | _ => none }
def raySnellRow : OpenClaim := { program := "ytnfmfkejhgbipaa", sum := "340b8986464518d83eebbd18c048f1a79538fb757e43bcf0231c4c1fb058ff23", func := "couplant/couplantlaw01.RaySnell", spec := "raySnell", unfollowed := true, recurses := true, apart := false }
def RaySnellSaid : Prop := raySnellRow.holds Try.pinned (OpenSpec.ofChange raySnellSpec)

/-- ITS FALSE NEIGHBOUR: 'it returns false'. Refute it at one input. -/
def raySnellWrong : ChangeSpec := { name := "raySnell", fn := fun _ => fun
  | [d1, d2, d3] => { results := [.lit (.bool false)], args := [d1, d2, d3] }
  | _ => none }
def RaySnellWrongFalsely : Prop := raySnellRow.holds Try.pinned (OpenSpec.ofChange raySnellWrong)

/-- 'couplantlaw01.RaySkips': WHATEVER THE INPUT: true; the input reads as it did. -/
def raySkipsSpec : ChangeSpec := { name := "raySkips", fn := fun _ => fun
  | [d] => { results := [.lit (.bool true)], args := [d] }
  | _ => none }
def raySkipsRow : OpenClaim := { program := "ytnfmfkejhgbipaa", sum := "340b8986464518d83eebbd18c048f1a79538fb757e43bcf0231c4c1fb058ff23", func := "couplant/couplantlaw01.RaySkips", spec := "raySkips", unfollowed := true, recurses := true, apart := false }
def RaySkipsSaid : Prop := raySkipsRow.holds Try.pinned (OpenSpec.ofChange raySkipsSpec)

/-- ITS FALSE NEIGHBOUR: 'it returns false'. Refute it at one input. -/
def raySkipsWrong : ChangeSpec := { name := "raySkips", fn := fun _ => fun
  | [d] => { results := [.lit (.bool false)], args := [d] }
  | _ => none }
def RaySkipsWrongFalsely : Prop := raySkipsRow.holds Try.pinned (OpenSpec.ofChange raySkipsWrong)

/-- 'couplantlaw01.RayFirst': WHATEVER THE INPUT: true; the input reads as it did. -/
def rayFirstSpec : ChangeSpec := { name := "rayFirst", fn := fun _ => fun
  | [d1, d2, d3] => { results := [.lit (.bool true)], args := [d1, d2, d3] }
  | _ => none }
def rayFirstRow : OpenClaim := { program := "ytnfmfkejhgbipaa", sum := "340b8986464518d83eebbd18c048f1a79538fb757e43bcf0231c4c1fb058ff23", func := "couplant/couplantlaw01.RayFirst", spec := "rayFirst", unfollowed := true, recurses := true, apart := false }
def RayFirstSaid : Prop := rayFirstRow.holds Try.pinned (OpenSpec.ofChange rayFirstSpec)

/-- ITS FALSE NEIGHBOUR: 'it returns false'. Refute it at one input. -/
def rayFirstWrong : ChangeSpec := { name := "rayFirst", fn := fun _ => fun
  | [d1, d2, d3] => { results := [.lit (.bool false)], args := [d1, d2, d3] }
  | _ => none }
def RayFirstWrongFalsely : Prop := rayFirstRow.holds Try.pinned (OpenSpec.ofChange rayFirstWrong)

/- THE SECOND FORM. 'bulk': how many values and letters a reading holds, each counted each time it is reached (what is shared counts as often as it is met; a slice's spare places count too). A statement '..UptoSaid' is the law's where the arguments, and the package variables that the reading takes, are together of bulk at most 1048576: NARROWER than '..Said'. Prove '..Said' where nothing that the law and all that it calls make is longer than what came in: it says more and counts as full. Else prove '..UptoSaid'. A law counts once. -/
mutual
def uptoBulk {H : Type} : DataW H → Nat
  | .lit (.string bytes) => bytes.length + 1
  | .lit _ => 1
  | .nil => 1
  | .ptr d => uptoBulk d + 1
  | .slice elems spare => uptoBulkAll elems + uptoBulkAll spare + 1
  | .agg parts => uptoBulkAll parts + 1
  | .iface _ d => uptoBulk d + 1
  | .map entries => uptoBulkEntries entries + 1
  | .held _ => 1
def uptoBulkAll {H : Type} : List (DataW H) → Nat
  | [] => 0
  | d :: r => uptoBulk d + uptoBulkAll r
def uptoBulkEntries {H : Type} : List (Lit × DataW H) → Nat
  | [] => 0
  | x :: r => uptoBulkEntry x + uptoBulkEntries r
def uptoBulkEntry {H : Type} : Lit × DataW H → Nat
  | (.string bytes, d) => bytes.length + uptoBulk d + 1
  | (_, d) => uptoBulk d + 1
 end
def uptoSmall : (H : Type) → List (DataW H) → Bool := fun _ ds => decide (uptoBulkAll ds ≤ 1048576)
def OpenSpec.upto (s : _root_.Go.ChangeSpec) : _root_.Go.OpenSpec := { _root_.Go.OpenSpec.ofChange s with cond := some uptoSmall }

/-- 'couplantlaw01.RayCrossings', WHERE WHAT IT READS IS OF BULK AT MOST 1048576: true; the input reads as it did. -/
def rayCrossingsUptoRow : OpenClaim := { program := "ytnfmfkejhgbipaa", sum := "340b8986464518d83eebbd18c048f1a79538fb757e43bcf0231c4c1fb058ff23", func := "couplant/couplantlaw01.RayCrossings", spec := "rayCrossings", unfollowed := true, recurses := true, apart := false, narrowed := true }
def RayCrossingsUptoSaid : Prop := rayCrossingsUptoRow.holds Try.pinned (OpenSpec.upto rayCrossingsSpec)

/-- 'couplantlaw01.RaySymmetric', WHERE WHAT IT READS IS OF BULK AT MOST 1048576: true; the input reads as it did. -/
def raySymmetricUptoRow : OpenClaim := { program := "ytnfmfkejhgbipaa", sum := "340b8986464518d83eebbd18c048f1a79538fb757e43bcf0231c4c1fb058ff23", func := "couplant/couplantlaw01.RaySymmetric", spec := "raySymmetric", unfollowed := true, recurses := true, apart := false, narrowed := true }
def RaySymmetricUptoSaid : Prop := raySymmetricUptoRow.holds Try.pinned (OpenSpec.upto raySymmetricSpec)

/-- 'couplanttop.TopNoFasterWay', WHERE WHAT IT READS IS OF BULK AT MOST 1048576: true; the input reads as it did. -/
def topNoFasterWayUptoRow : OpenClaim := { program := "ytnfmfkejhgbipaa", sum := "340b8986464518d83eebbd18c048f1a79538fb757e43bcf0231c4c1fb058ff23", func := "couplant/couplanttop.TopNoFasterWay", spec := "topNoFasterWay", unfollowed := true, recurses := true, apart := false, narrowed := true }
def TopNoFasterWayUptoSaid : Prop := topNoFasterWayUptoRow.holds Try.pinned (OpenSpec.upto topNoFasterWaySpec)

/-- 'couplantlaw01.RayModes', WHERE WHAT IT READS IS OF BULK AT MOST 1048576: true; the input reads as it did. -/
def rayModesUptoRow : OpenClaim := { program := "ytnfmfkejhgbipaa", sum := "340b8986464518d83eebbd18c048f1a79538fb757e43bcf0231c4c1fb058ff23", func := "couplant/couplantlaw01.RayModes", spec := "rayModes", unfollowed := true, recurses := true, apart := false, narrowed := true }
def RayModesUptoSaid : Prop := rayModesUptoRow.holds Try.pinned (OpenSpec.upto rayModesSpec)

/-- 'couplantlaw01.RayLegs', WHERE WHAT IT READS IS OF BULK AT MOST 1048576: true; the input reads as it did. -/
def rayLegsUptoRow : OpenClaim := { program := "ytnfmfkejhgbipaa", sum := "340b8986464518d83eebbd18c048f1a79538fb757e43bcf0231c4c1fb058ff23", func := "couplant/couplantlaw01.RayLegs", spec := "rayLegs", unfollowed := true, recurses := true, apart := false, narrowed := true }
def RayLegsUptoSaid : Prop := rayLegsUptoRow.holds Try.pinned (OpenSpec.upto rayLegsSpec)

/-- 'couplantlaw01.RayTurns', WHERE WHAT IT READS IS OF BULK AT MOST 1048576: true; the input reads as it did. -/
def rayTurnsUptoRow : OpenClaim := { program := "ytnfmfkejhgbipaa", sum := "340b8986464518d83eebbd18c048f1a79538fb757e43bcf0231c4c1fb058ff23", func := "couplant/couplantlaw01.RayTurns", spec := "rayTurns", unfollowed := true, recurses := true, apart := false, narrowed := true }
def RayTurnsUptoSaid : Prop := rayTurnsUptoRow.holds Try.pinned (OpenSpec.upto rayTurnsSpec)

/-- 'couplantlaw01.RayEchoes', WHERE WHAT IT READS IS OF BULK AT MOST 1048576: true; the input reads as it did. -/
def rayEchoesUptoRow : OpenClaim := { program := "ytnfmfkejhgbipaa", sum := "340b8986464518d83eebbd18c048f1a79538fb757e43bcf0231c4c1fb058ff23", func := "couplant/couplantlaw01.RayEchoes", spec := "rayEchoes", unfollowed := true, recurses := true, apart := false, narrowed := true }
def RayEchoesUptoSaid : Prop := rayEchoesUptoRow.holds Try.pinned (OpenSpec.upto rayEchoesSpec)

/-- 'couplanttop.TopSnellPasses', WHERE WHAT IT READS IS OF BULK AT MOST 1048576: true; the input reads as it did. -/
def topSnellPassesUptoRow : OpenClaim := { program := "ytnfmfkejhgbipaa", sum := "340b8986464518d83eebbd18c048f1a79538fb757e43bcf0231c4c1fb058ff23", func := "couplant/couplanttop.TopSnellPasses", spec := "topSnellPasses", unfollowed := true, recurses := true, apart := false, narrowed := true }
def TopSnellPassesUptoSaid : Prop := topSnellPassesUptoRow.holds Try.pinned (OpenSpec.upto topSnellPassesSpec)

/-- 'couplantlaw01.RayWays', WHERE WHAT IT READS IS OF BULK AT MOST 1048576: true; the input reads as it did. -/
def rayWaysUptoRow : OpenClaim := { program := "ytnfmfkejhgbipaa", sum := "340b8986464518d83eebbd18c048f1a79538fb757e43bcf0231c4c1fb058ff23", func := "couplant/couplantlaw01.RayWays", spec := "rayWays", unfollowed := true, recurses := true, apart := false, narrowed := true }
def RayWaysUptoSaid : Prop := rayWaysUptoRow.holds Try.pinned (OpenSpec.upto rayWaysSpec)

/-- 'couplantlaw01.RayCrosses', WHERE WHAT IT READS IS OF BULK AT MOST 1048576: true; the input reads as it did. -/
def rayCrossesUptoRow : OpenClaim := { program := "ytnfmfkejhgbipaa", sum := "340b8986464518d83eebbd18c048f1a79538fb757e43bcf0231c4c1fb058ff23", func := "couplant/couplantlaw01.RayCrosses", spec := "rayCrosses", unfollowed := true, recurses := true, apart := false, narrowed := true }
def RayCrossesUptoSaid : Prop := rayCrossesUptoRow.holds Try.pinned (OpenSpec.upto rayCrossesSpec)

/-- 'couplantlaw01.RayLeast', WHERE WHAT IT READS IS OF BULK AT MOST 1048576: true; the input reads as it did. -/
def rayLeastUptoRow : OpenClaim := { program := "ytnfmfkejhgbipaa", sum := "340b8986464518d83eebbd18c048f1a79538fb757e43bcf0231c4c1fb058ff23", func := "couplant/couplantlaw01.RayLeast", spec := "rayLeast", unfollowed := true, recurses := true, apart := false, narrowed := true }
def RayLeastUptoSaid : Prop := rayLeastUptoRow.holds Try.pinned (OpenSpec.upto rayLeastSpec)

/-- 'couplantlaw01.RaySteep', WHERE WHAT IT READS IS OF BULK AT MOST 1048576: true; the input reads as it did. -/
def raySteepUptoRow : OpenClaim := { program := "ytnfmfkejhgbipaa", sum := "340b8986464518d83eebbd18c048f1a79538fb757e43bcf0231c4c1fb058ff23", func := "couplant/couplantlaw01.RaySteep", spec := "raySteep", unfollowed := true, recurses := true, apart := false, narrowed := true }
def RaySteepUptoSaid : Prop := raySteepUptoRow.holds Try.pinned (OpenSpec.upto raySteepSpec)

/-- 'couplantlaw01.RayAngles', WHERE WHAT IT READS IS OF BULK AT MOST 1048576: true; the input reads as it did. -/
def rayAnglesUptoRow : OpenClaim := { program := "ytnfmfkejhgbipaa", sum := "340b8986464518d83eebbd18c048f1a79538fb757e43bcf0231c4c1fb058ff23", func := "couplant/couplantlaw01.RayAngles", spec := "rayAngles", unfollowed := true, recurses := true, apart := false, narrowed := true }
def RayAnglesUptoSaid : Prop := rayAnglesUptoRow.holds Try.pinned (OpenSpec.upto rayAnglesSpec)

/-- 'couplantlaw01.RaySnell', WHERE WHAT IT READS IS OF BULK AT MOST 1048576: true; the input reads as it did. -/
def raySnellUptoRow : OpenClaim := { program := "ytnfmfkejhgbipaa", sum := "340b8986464518d83eebbd18c048f1a79538fb757e43bcf0231c4c1fb058ff23", func := "couplant/couplantlaw01.RaySnell", spec := "raySnell", unfollowed := true, recurses := true, apart := false, narrowed := true }
def RaySnellUptoSaid : Prop := raySnellUptoRow.holds Try.pinned (OpenSpec.upto raySnellSpec)

/-- 'couplantlaw01.RaySkips', WHERE WHAT IT READS IS OF BULK AT MOST 1048576: true; the input reads as it did. -/
def raySkipsUptoRow : OpenClaim := { program := "ytnfmfkejhgbipaa", sum := "340b8986464518d83eebbd18c048f1a79538fb757e43bcf0231c4c1fb058ff23", func := "couplant/couplantlaw01.RaySkips", spec := "raySkips", unfollowed := true, recurses := true, apart := false, narrowed := true }
def RaySkipsUptoSaid : Prop := raySkipsUptoRow.holds Try.pinned (OpenSpec.upto raySkipsSpec)

/-- 'couplantlaw01.RayFirst', WHERE WHAT IT READS IS OF BULK AT MOST 1048576: true; the input reads as it did. -/
def rayFirstUptoRow : OpenClaim := { program := "ytnfmfkejhgbipaa", sum := "340b8986464518d83eebbd18c048f1a79538fb757e43bcf0231c4c1fb058ff23", func := "couplant/couplantlaw01.RayFirst", spec := "rayFirst", unfollowed := true, recurses := true, apart := false, narrowed := true }
def RayFirstUptoSaid : Prop := rayFirstUptoRow.holds Try.pinned (OpenSpec.upto rayFirstSpec)

end Rows
end Go.Proofs.Ytnfmfkejhgbipaa
