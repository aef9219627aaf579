/-
  No cell of these rows narrows 'for every input' (looked for: loops, veiled, ifaces, maps, wideKeys, modest, calm, conditions, laid).
  DERIVED. THE GIVEN ROWS OF THIS SEAT. 11 by the template 'for every input the law returns true; each argument reads behind the call as it read before'; 0 by the template 'total and deterministic' (their statements: YtfkbcldeohblpaaTotals.lean).
  GIVEN WITH THE SEED: the statements are not yours to turn. If you find one false, say at which input.
  Laid BY PROGRAM, IN A SANDBOX (cutbox-rows.mjs): the forced cells as the released guide's own fill.sh prints them over the translation afd3238203feab7f… (all of the seat's roots in one cut). By AI agents, Wed Nov 11 2026. No macro, syntax, notation, axiom, sorry.
-/
import Derived.Test.YtfkbcldeohblpaaChecked
import GoSem.Claim
import GoSem.ClaimJoined
import GoSem.ClaimMapViews
import Derived.JoinedTies
import Derived.KernelRfl
namespace Go.Proofs.Ytfkbcldeohblpaa
/- THE CELL 'sum', in the pinned program and in every row, IS THE sha256 OF THE DUMP (.gsa) THAT YtfkbcldeohblpaaProg.lean LOADS. Nothing in Lean hashes anything: it is a label: what it is worth is what the hold of that sum in a sandbox is worth. -/
noncomputable def Try.pinned : Pinned := { name := "ytfkbcldeohblpaa", sum := "afd3238203feab7f1d2458b1402f3e27550ba4ecdfb9bddbef7a0bb36cde4fe7", checked := Try.checked }
namespace Rows
def none {H : Type} : Left H := { results := [], args := [] }

/-- 'oakumlaw05.GeomSpans': WHATEVER THE INPUT: true; the input reads as it did. -/
def geomSpansSpec : ChangeSpec := { name := "geomSpans", fn := fun _ => fun
  | [d1, d2, d3] => { results := [.lit (.bool true)], args := [d1, d2, d3] }
  | _ => none }
def geomSpansRow : OpenClaim := { program := "ytfkbcldeohblpaa", sum := "afd3238203feab7f1d2458b1402f3e27550ba4ecdfb9bddbef7a0bb36cde4fe7", func := "oakum/oakumlaw05.GeomSpans", spec := "geomSpans", unfollowed := true, recurses := true, apart := false }
def GeomSpansSaid : Prop := geomSpansRow.holds Try.pinned (OpenSpec.ofChange geomSpansSpec)

/-- ITS FALSE NEIGHBOUR: 'it returns false'. Refute it at one input. -/
def geomSpansWrong : ChangeSpec := { name := "geomSpans", fn := fun _ => fun
  | [d1, d2, d3] => { results := [.lit (.bool false)], args := [d1, d2, d3] }
  | _ => none }
def GeomSpansWrongFalsely : Prop := geomSpansRow.holds Try.pinned (OpenSpec.ofChange geomSpansWrong)

/-- 'oakumlaw05.GeomPieces': WHATEVER THE INPUT: true; the input reads as it did. -/
def geomPiecesSpec : ChangeSpec := { name := "geomPieces", fn := fun _ => fun
  | [d1, d2] => { results := [.lit (.bool true)], args := [d1, d2] }
  | _ => none }
def geomPiecesRow : OpenClaim := { program := "ytfkbcldeohblpaa", sum := "afd3238203feab7f1d2458b1402f3e27550ba4ecdfb9bddbef7a0bb36cde4fe7", func := "oakum/oakumlaw05.GeomPieces", spec := "geomPieces", unfollowed := true, recurses := true, apart := false }
def GeomPiecesSaid : Prop := geomPiecesRow.holds Try.pinned (OpenSpec.ofChange geomPiecesSpec)

/-- ITS FALSE NEIGHBOUR: 'it returns false'. Refute it at one input. -/
def geomPiecesWrong : ChangeSpec := { name := "geomPieces", fn := fun _ => fun
  | [d1, d2] => { results := [.lit (.bool false)], args := [d1, d2] }
  | _ => none }
def GeomPiecesWrongFalsely : Prop := geomPiecesRow.holds Try.pinned (OpenSpec.ofChange geomPiecesWrong)

/-- 'oakumlaw05.GeomRoom': WHATEVER THE INPUT: true; the input reads as it did. -/
def geomRoomSpec : ChangeSpec := { name := "geomRoom", fn := fun _ => fun
  | [d1, d2, d3] => { results := [.lit (.bool true)], args := [d1, d2, d3] }
  | _ => none }
def geomRoomRow : OpenClaim := { program := "ytfkbcldeohblpaa", sum := "afd3238203feab7f1d2458b1402f3e27550ba4ecdfb9bddbef7a0bb36cde4fe7", func := "oakum/oakumlaw05.GeomRoom", spec := "geomRoom", unfollowed := true, recurses := true, apart := false }
def GeomRoomSaid : Prop := geomRoomRow.holds Try.pinned (OpenSpec.ofChange geomRoomSpec)

/-- ITS FALSE NEIGHBOUR: 'it returns false'. Refute it at one input. -/
def geomRoomWrong : ChangeSpec := { name := "geomRoom", fn := fun _ => fun
  | [d1, d2, d3] => { results := [.lit (.bool false)], args := [d1, d2, d3] }
  | _ => none }
def GeomRoomWrongFalsely : Prop := geomRoomRow.holds Try.pinned (OpenSpec.ofChange geomRoomWrong)

/-- 'oakumlaw10.LayoutTells': WHATEVER THE INPUT: true; the input reads as it did. -/
def layoutTellsSpec : ChangeSpec := { name := "layoutTells", fn := fun _ => fun
  | [d1, d2] => { results := [.lit (.bool true)], args := [d1, d2] }
  | _ => none }
def layoutTellsRow : OpenClaim := { program := "ytfkbcldeohblpaa", sum := "afd3238203feab7f1d2458b1402f3e27550ba4ecdfb9bddbef7a0bb36cde4fe7", func := "oakum/oakumlaw10.LayoutTells", spec := "layoutTells", unfollowed := true, recurses := true, apart := false }
def LayoutTellsSaid : Prop := layoutTellsRow.holds Try.pinned (OpenSpec.ofChange layoutTellsSpec)

/-- ITS FALSE NEIGHBOUR: 'it returns false'. Refute it at one input. -/
def layoutTellsWrong : ChangeSpec := { name := "layoutTells", fn := fun _ => fun
  | [d1, d2] => { results := [.lit (.bool false)], args := [d1, d2] }
  | _ => none }
def LayoutTellsWrongFalsely : Prop := layoutTellsRow.holds Try.pinned (OpenSpec.ofChange layoutTellsWrong)

/-- 'oakumlaw10.LayoutApart': WHATEVER THE INPUT: true; the input reads as it did. -/
def layoutApartSpec : ChangeSpec := { name := "layoutApart", fn := fun _ => fun
  | [d1, d2, d3] => { results := [.lit (.bool true)], args := [d1, d2, d3] }
  | _ => none }
def layoutApartRow : OpenClaim := { program := "ytfkbcldeohblpaa", sum := "afd3238203feab7f1d2458b1402f3e27550ba4ecdfb9bddbef7a0bb36cde4fe7", func := "oakum/oakumlaw10.LayoutApart", spec := "layoutApart", unfollowed := true, recurses := true, apart := false }
def LayoutApartSaid : Prop := layoutApartRow.holds Try.pinned (OpenSpec.ofChange layoutApartSpec)

/-- ITS FALSE NEIGHBOUR: 'it returns false'. Refute it at one input. -/
def layoutApartWrong : ChangeSpec := { name := "layoutApart", fn := fun _ => fun
  | [d1, d2, d3] => { results := [.lit (.bool false)], args := [d1, d2, d3] }
  | _ => none }
def LayoutApartWrongFalsely : Prop := layoutApartRow.holds Try.pinned (OpenSpec.ofChange layoutApartWrong)

/-- 'oakumlaw01.GaugeTells': WHATEVER THE INPUT: true; the input reads as it did. -/
def gaugeTellsSpec : ChangeSpec := { name := "gaugeTells", fn := fun _ => fun
  | [d1, d2] => { results := [.lit (.bool true)], args := [d1, d2] }
  | _ => none }
def gaugeTellsRow : OpenClaim := { program := "ytfkbcldeohblpaa", sum := "afd3238203feab7f1d2458b1402f3e27550ba4ecdfb9bddbef7a0bb36cde4fe7", func := "oakum/oakumlaw01.GaugeTells", spec := "gaugeTells", inPlace := ["math.Float64frombits", "math.Float64bits", "math.archFloor", "math.archTrunc"], apart := false }
def GaugeTellsSaid : Prop := gaugeTellsRow.holds Try.pinned (OpenSpec.ofChange gaugeTellsSpec)

/-- ITS FALSE NEIGHBOUR: 'it returns false'. Refute it at one input. -/
def gaugeTellsWrong : ChangeSpec := { name := "gaugeTells", fn := fun _ => fun
  | [d1, d2] => { results := [.lit (.bool false)], args := [d1, d2] }
  | _ => none }
def GaugeTellsWrongFalsely : Prop := gaugeTellsRow.holds Try.pinned (OpenSpec.ofChange gaugeTellsWrong)

/-- 'oakumlaw01.GaugeWhole': WHATEVER THE INPUT: true; the input reads as it did. -/
def gaugeWholeSpec : ChangeSpec := { name := "gaugeWhole", fn := fun _ => fun
  | [d1, d2] => { results := [.lit (.bool true)], args := [d1, d2] }
  | _ => none }
def gaugeWholeRow : OpenClaim := { program := "ytfkbcldeohblpaa", sum := "afd3238203feab7f1d2458b1402f3e27550ba4ecdfb9bddbef7a0bb36cde4fe7", func := "oakum/oakumlaw01.GaugeWhole", spec := "gaugeWhole", inPlace := ["math.Float64frombits", "math.Float64bits", "math.archFloor", "math.archTrunc"], apart := false }
def GaugeWholeSaid : Prop := gaugeWholeRow.holds Try.pinned (OpenSpec.ofChange gaugeWholeSpec)

/-- ITS FALSE NEIGHBOUR: 'it returns false'. Refute it at one input. -/
def gaugeWholeWrong : ChangeSpec := { name := "gaugeWhole", fn := fun _ => fun
  | [d1, d2] => { results := [.lit (.bool false)], args := [d1, d2] }
  | _ => none }
def GaugeWholeWrongFalsely : Prop := gaugeWholeRow.holds Try.pinned (OpenSpec.ofChange gaugeWholeWrong)

/-- 'oakumlaw01.GaugeOrder': WHATEVER THE INPUT: true; the input reads as it did. -/
def gaugeOrderSpec : ChangeSpec := { name := "gaugeOrder", fn := fun _ => fun
  | [d1, d2, d3] => { results := [.lit (.bool true)], args := [d1, d2, d3] }
  | _ => none }
def gaugeOrderRow : OpenClaim := { program := "ytfkbcldeohblpaa", sum := "afd3238203feab7f1d2458b1402f3e27550ba4ecdfb9bddbef7a0bb36cde4fe7", func := "oakum/oakumlaw01.GaugeOrder", spec := "gaugeOrder", inPlace := ["math.Float64frombits", "math.Float64bits", "math.archFloor", "math.archTrunc"], apart := false }
def GaugeOrderSaid : Prop := gaugeOrderRow.holds Try.pinned (OpenSpec.ofChange gaugeOrderSpec)

/-- ITS FALSE NEIGHBOUR: 'it returns false'. Refute it at one input. -/
def gaugeOrderWrong : ChangeSpec := { name := "gaugeOrder", fn := fun _ => fun
  | [d1, d2, d3] => { results := [.lit (.bool false)], args := [d1, d2, d3] }
  | _ => none }
def GaugeOrderWrongFalsely : Prop := gaugeOrderRow.holds Try.pinned (OpenSpec.ofChange gaugeOrderWrong)

/-- 'oakumlaw01.GaugeRatios': WHATEVER THE INPUT: true; the input reads as it did. -/
def gaugeRatiosSpec : ChangeSpec := { name := "gaugeRatios", fn := fun _ => fun
  | [d1, d2] => { results := [.lit (.bool true)], args := [d1, d2] }
  | _ => none }
def gaugeRatiosRow : OpenClaim := { program := "ytfkbcldeohblpaa", sum := "afd3238203feab7f1d2458b1402f3e27550ba4ecdfb9bddbef7a0bb36cde4fe7", func := "oakum/oakumlaw01.GaugeRatios", spec := "gaugeRatios", inPlace := ["math.Float64frombits", "math.Float64bits", "math.archFloor", "math.archTrunc"], apart := false }
def GaugeRatiosSaid : Prop := gaugeRatiosRow.holds Try.pinned (OpenSpec.ofChange gaugeRatiosSpec)

/-- ITS FALSE NEIGHBOUR: 'it returns false'. Refute it at one input. -/
def gaugeRatiosWrong : ChangeSpec := { name := "gaugeRatios", fn := fun _ => fun
  | [d1, d2] => { results := [.lit (.bool false)], args := [d1, d2] }
  | _ => none }
def GaugeRatiosWrongFalsely : Prop := gaugeRatiosRow.holds Try.pinned (OpenSpec.ofChange gaugeRatiosWrong)

/-- 'oakumlaw01.GaugeNeeds': WHATEVER THE INPUT: true; the input reads as it did. -/
def gaugeNeedsSpec : ChangeSpec := { name := "gaugeNeeds", fn := fun _ => fun
  | [d1, d2, d3] => { results := [.lit (.bool true)], args := [d1, d2, d3] }
  | _ => none }
def gaugeNeedsRow : OpenClaim := { program := "ytfkbcldeohblpaa", sum := "afd3238203feab7f1d2458b1402f3e27550ba4ecdfb9bddbef7a0bb36cde4fe7", func := "oakum/oakumlaw01.GaugeNeeds", spec := "gaugeNeeds", inPlace := ["math.Float64frombits", "math.Float64bits", "math.archFloor", "math.archTrunc"], apart := false }
def GaugeNeedsSaid : Prop := gaugeNeedsRow.holds Try.pinned (OpenSpec.ofChange gaugeNeedsSpec)

/-- ITS FALSE NEIGHBOUR: 'it returns false'. Refute it at one input. -/
def gaugeNeedsWrong : ChangeSpec := { name := "gaugeNeeds", fn := fun _ => fun
  | [d1, d2, d3] => { results := [.lit (.bool false)], args := [d1, d2, d3] }
  | _ => none }
def GaugeNeedsWrongFalsely : Prop := gaugeNeedsRow.holds Try.pinned (OpenSpec.ofChange gaugeNeedsWrong)

/-- 'oakumlaw01.GaugeLeast': WHATEVER THE INPUT: true; the input reads as it did. -/
def gaugeLeastSpec : ChangeSpec := { name := "gaugeLeast", fn := fun _ => fun
  | [d] => { results := [.lit (.bool true)], args := [d] }
  | _ => none }
def gaugeLeastRow : OpenClaim := { program := "ytfkbcldeohblpaa", sum := "afd3238203feab7f1d2458b1402f3e27550ba4ecdfb9bddbef7a0bb36cde4fe7", func := "oakum/oakumlaw01.GaugeLeast", spec := "gaugeLeast", inPlace := ["math.Float64frombits", "math.Float64bits", "math.archFloor", "math.archTrunc"], apart := false }
def GaugeLeastSaid : Prop := gaugeLeastRow.holds Try.pinned (OpenSpec.ofChange gaugeLeastSpec)

/-- ITS FALSE NEIGHBOUR: 'it returns false'. Refute it at one input. -/
def gaugeLeastWrong : ChangeSpec := { name := "gaugeLeast", fn := fun _ => fun
  | [d] => { results := [.lit (.bool false)], args := [d] }
  | _ => none }
def GaugeLeastWrongFalsely : Prop := gaugeLeastRow.holds Try.pinned (OpenSpec.ofChange gaugeLeastWrong)

/- THE SECOND FORM. 'bulk': how many values and letters a reading holds, each counted each time it is reached (what is shared counts as often as it is met; a slice's spare places count too). A statement '..UptoSaid' is the law's where the arguments, and the package variables that the reading takes, are together of bulk at most 1048576: NARROWER than '..Said'. Prove '..Said' where nothing that the law and all that it calls make is longer than what came in: it says more and counts as full. Else prove '..UptoSaid'. A law counts once. -/
mutual
def uptoBulk {H : Type} : DataW H → Nat
  | .lit (.string bytes) => bytes.length + 1
  | .lit _ => 1
  | .nil => 1
  | .ptr d => uptoBulk d + 1
  | .slice elems spare => uptoBulkAll elems + uptoBulkAll spare + 1
  | .agg parts => uptoBulkAll parts + 1
  | .iface _ d => uptoBulk d + 1
  | .map entries => uptoBulkEntries entries + 1
  | .held _ => 1
def uptoBulkAll {H : Type} : List (DataW H) → Nat
  | [] => 0
  | d :: r => uptoBulk d + uptoBulkAll r
def uptoBulkEntries {H : Type} : List (Lit × DataW H) → Nat
  | [] => 0
  | x :: r => uptoBulkEntry x + uptoBulkEntries r
def uptoBulkEntry {H : Type} : Lit × DataW H → Nat
  | (.string bytes, d) => bytes.length + uptoBulk d + 1
  | (_, d) => uptoBulk d + 1
 end
def uptoSmall : (H : Type) → List (DataW H) → Bool := fun _ ds => decide (uptoBulkAll ds ≤ 1048576)
def OpenSpec.upto (s : _root_.Go.ChangeSpec) : _root_.Go.OpenSpec := { _root_.Go.OpenSpec.ofChange s with cond := some uptoSmall }

/-- 'oakumlaw05.GeomSpans', WHERE WHAT IT READS IS OF BULK AT MOST 1048576: true; the input reads as it did. -/
def geomSpansUptoRow : OpenClaim := { program := "ytfkbcldeohblpaa", sum := "afd3238203feab7f1d2458b1402f3e27550ba4ecdfb9bddbef7a0bb36cde4fe7", func := "oakum/oakumlaw05.GeomSpans", spec := "geomSpans", unfollowed := true, recurses := true, apart := false, narrowed := true }
def GeomSpansUptoSaid : Prop := geomSpansUptoRow.holds Try.pinned (OpenSpec.upto geomSpansSpec)

/-- 'oakumlaw05.GeomPieces', WHERE WHAT IT READS IS OF BULK AT MOST 1048576: true; the input reads as it did. -/
def geomPiecesUptoRow : OpenClaim := { program := "ytfkbcldeohblpaa", sum := "afd3238203feab7f1d2458b1402f3e27550ba4ecdfb9bddbef7a0bb36cde4fe7", func := "oakum/oakumlaw05.GeomPieces", spec := "geomPieces", unfollowed := true, recurses := true, apart := false, narrowed := true }
def GeomPiecesUptoSaid : Prop := geomPiecesUptoRow.holds Try.pinned (OpenSpec.upto geomPiecesSpec)

/-- 'oakumlaw05.GeomRoom', WHERE WHAT IT READS IS OF BULK AT MOST 1048576: true; the input reads as it did. -/
def geomRoomUptoRow : OpenClaim := { program := "ytfkbcldeohblpaa", sum := "afd3238203feab7f1d2458b1402f3e27550ba4ecdfb9bddbef7a0bb36cde4fe7", func := "oakum/oakumlaw05.GeomRoom", spec := "geomRoom", unfollowed := true, recurses := true, apart := false, narrowed := true }
def GeomRoomUptoSaid : Prop := geomRoomUptoRow.holds Try.pinned (OpenSpec.upto geomRoomSpec)

/-- 'oakumlaw10.LayoutTells', WHERE WHAT IT READS IS OF BULK AT MOST 1048576: true; the input reads as it did. -/
def layoutTellsUptoRow : OpenClaim := { program := "ytfkbcldeohblpaa", sum := "afd3238203feab7f1d2458b1402f3e27550ba4ecdfb9bddbef7a0bb36cde4fe7", func := "oakum/oakumlaw10.LayoutTells", spec := "layoutTells", unfollowed := true, recurses := true, apart := false, narrowed := true }
def LayoutTellsUptoSaid : Prop := layoutTellsUptoRow.holds Try.pinned (OpenSpec.upto layoutTellsSpec)

/-- 'oakumlaw10.LayoutApart', WHERE WHAT IT READS IS OF BULK AT MOST 1048576: true; the input reads as it did. -/
def layoutApartUptoRow : OpenClaim := { program := "ytfkbcldeohblpaa", sum := "afd3238203feab7f1d2458b1402f3e27550ba4ecdfb9bddbef7a0bb36cde4fe7", func := "oakum/oakumlaw10.LayoutApart", spec := "layoutApart", unfollowed := true, recurses := true, apart := false, narrowed := true }
def LayoutApartUptoSaid : Prop := layoutApartUptoRow.holds Try.pinned (OpenSpec.upto layoutApartSpec)

/-- 'oakumlaw01.GaugeTells', WHERE WHAT IT READS IS OF BULK AT MOST 1048576: true; the input reads as it did. -/
def gaugeTellsUptoRow : OpenClaim := { program := "ytfkbcldeohblpaa", sum := "afd3238203feab7f1d2458b1402f3e27550ba4ecdfb9bddbef7a0bb36cde4fe7", func := "oakum/oakumlaw01.GaugeTells", spec := "gaugeTells", inPlace := ["math.Float64frombits", "math.Float64bits", "math.archFloor", "math.archTrunc"], apart := false, narrowed := true }
def GaugeTellsUptoSaid : Prop := gaugeTellsUptoRow.holds Try.pinned (OpenSpec.upto gaugeTellsSpec)

/-- 'oakumlaw01.GaugeWhole', WHERE WHAT IT READS IS OF BULK AT MOST 1048576: true; the input reads as it did. -/
def gaugeWholeUptoRow : OpenClaim := { program := "ytfkbcldeohblpaa", sum := "afd3238203feab7f1d2458b1402f3e27550ba4ecdfb9bddbef7a0bb36cde4fe7", func := "oakum/oakumlaw01.GaugeWhole", spec := "gaugeWhole", inPlace := ["math.Float64frombits", "math.Float64bits", "math.archFloor", "math.archTrunc"], apart := false, narrowed := true }
def GaugeWholeUptoSaid : Prop := gaugeWholeUptoRow.holds Try.pinned (OpenSpec.upto gaugeWholeSpec)

/-- 'oakumlaw01.GaugeOrder', WHERE WHAT IT READS IS OF BULK AT MOST 1048576: true; the input reads as it did. -/
def gaugeOrderUptoRow : OpenClaim := { program := "ytfkbcldeohblpaa", sum := "afd3238203feab7f1d2458b1402f3e27550ba4ecdfb9bddbef7a0bb36cde4fe7", func := "oakum/oakumlaw01.GaugeOrder", spec := "gaugeOrder", inPlace := ["math.Float64frombits", "math.Float64bits", "math.archFloor", "math.archTrunc"], apart := false, narrowed := true }
def GaugeOrderUptoSaid : Prop := gaugeOrderUptoRow.holds Try.pinned (OpenSpec.upto gaugeOrderSpec)

/-- 'oakumlaw01.GaugeRatios', WHERE WHAT IT READS IS OF BULK AT MOST 1048576: true; the input reads as it did. -/
def gaugeRatiosUptoRow : OpenClaim := { program := "ytfkbcldeohblpaa", sum := "afd3238203feab7f1d2458b1402f3e27550ba4ecdfb9bddbef7a0bb36cde4fe7", func := "oakum/oakumlaw01.GaugeRatios", spec := "gaugeRatios", inPlace := ["math.Float64frombits", "math.Float64bits", "math.archFloor", "math.archTrunc"], apart := false, narrowed := true }
def GaugeRatiosUptoSaid : Prop := gaugeRatiosUptoRow.holds Try.pinned (OpenSpec.upto gaugeRatiosSpec)

/-- 'oakumlaw01.GaugeNeeds', WHERE WHAT IT READS IS OF BULK AT MOST 1048576: true; the input reads as it did. -/
def gaugeNeedsUptoRow : OpenClaim := { program := "ytfkbcldeohblpaa", sum := "afd3238203feab7f1d2458b1402f3e27550ba4ecdfb9bddbef7a0bb36cde4fe7", func := "oakum/oakumlaw01.GaugeNeeds", spec := "gaugeNeeds", inPlace := ["math.Float64frombits", "math.Float64bits", "math.archFloor", "math.archTrunc"], apart := false, narrowed := true }
def GaugeNeedsUptoSaid : Prop := gaugeNeedsUptoRow.holds Try.pinned (OpenSpec.upto gaugeNeedsSpec)

/-- 'oakumlaw01.GaugeLeast', WHERE WHAT IT READS IS OF BULK AT MOST 1048576: true; the input reads as it did. -/
def gaugeLeastUptoRow : OpenClaim := { program := "ytfkbcldeohblpaa", sum := "afd3238203feab7f1d2458b1402f3e27550ba4ecdfb9bddbef7a0bb36cde4fe7", func := "oakum/oakumlaw01.GaugeLeast", spec := "gaugeLeast", inPlace := ["math.Float64frombits", "math.Float64bits", "math.archFloor", "math.archTrunc"], apart := false, narrowed := true }
def GaugeLeastUptoSaid : Prop := gaugeLeastUptoRow.holds Try.pinned (OpenSpec.upto gaugeLeastSpec)

end Rows
end Go.Proofs.Ytfkbcldeohblpaa
