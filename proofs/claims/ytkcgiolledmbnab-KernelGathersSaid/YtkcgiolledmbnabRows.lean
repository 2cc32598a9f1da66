/-
  No cell of these rows narrows 'for every input' (looked for: loops, veiled, ifaces, maps, wideKeys, modest, calm, conditions, laid).
  DERIVED. THE GIVEN ROWS OF THIS SEAT. 12 by the template 'for every input the law returns true; each argument reads behind the call as it read before'; 0 by the template 'total and deterministic' (their statements: YtkcgiolledmbnabTotals.lean).
  GIVEN WITH THE SEED: the statements are not yours to turn. If you find one false, say at which input.
  Laid BY PROGRAM, IN A SANDBOX (cutbox-rows.mjs): the forced cells as the released guide's own fill.sh prints them over the translation bb1b3de71226014c… (all of the seat's roots in one cut). By AI agents, Wed Nov 11 2026. No macro, syntax, notation, axiom, sorry.
-/
import Derived.Test.YtkcgiolledmbnabChecked
import GoSem.Claim
import GoSem.ClaimJoined
import GoSem.ClaimMapViews
import Derived.JoinedTies
import Derived.KernelRfl
namespace Go.Proofs.Ytkcgiolledmbnab
/- THE CELL 'sum', in the pinned program and in every row, IS THE sha256 OF THE DUMP (.gsa) THAT YtkcgiolledmbnabProg.lean LOADS. Nothing in Lean hashes anything: it is a label: what it is worth is what the hold of that sum in a sandbox is worth. -/
noncomputable def Try.pinned : Pinned := { name := "ytkcgiolledmbnab", sum := "bb1b3de71226014c4cd04b596513ba4095a150b684ae2ca9103270a8e2f68a2c", checked := Try.checked }
namespace Rows
def none {H : Type} : Left H := { results := [], args := [] }

/-- 'backstitchlaw8.FoldTrees': WHATEVER THE INPUT: true; the input reads as it did. -/
def foldTreesSpec : ChangeSpec := { name := "foldTrees", fn := fun _ => fun
  | [d] => { results := [.lit (.bool true)], args := [d] }
  | _ => none }
def foldTreesRow : OpenClaim := { program := "ytkcgiolledmbnab", sum := "bb1b3de71226014c4cd04b596513ba4095a150b684ae2ca9103270a8e2f68a2c", func := "backstitch/backstitchlaw8.FoldTrees", spec := "foldTrees", inPlace := ["math.Float64bits"], unfollowed := true, recurses := true, apart := false }
def FoldTreesSaid : Prop := foldTreesRow.holds Try.pinned (OpenSpec.ofChange foldTreesSpec)

/-- ITS FALSE NEIGHBOUR: 'it returns false'. Refute it at one input. -/
def foldTreesWrong : ChangeSpec := { name := "foldTrees", fn := fun _ => fun
  | [d] => { results := [.lit (.bool false)], args := [d] }
  | _ => none }
def FoldTreesWrongFalsely : Prop := foldTreesRow.holds Try.pinned (OpenSpec.ofChange foldTreesWrong)

/-- 'backstitchlaw8.FoldOrders': WHATEVER THE INPUT: true; the input reads as it did. -/
def foldOrdersSpec : ChangeSpec := { name := "foldOrders", fn := fun _ => fun
  | [d1, d2] => { results := [.lit (.bool true)], args := [d1, d2] }
  | _ => none }
def foldOrdersRow : OpenClaim := { program := "ytkcgiolledmbnab", sum := "bb1b3de71226014c4cd04b596513ba4095a150b684ae2ca9103270a8e2f68a2c", func := "backstitch/backstitchlaw8.FoldOrders", spec := "foldOrders", inPlace := ["math.Float64bits"], unfollowed := true, recurses := true, apart := false }
def FoldOrdersSaid : Prop := foldOrdersRow.holds Try.pinned (OpenSpec.ofChange foldOrdersSpec)

/-- ITS FALSE NEIGHBOUR: 'it returns false'. Refute it at one input. -/
def foldOrdersWrong : ChangeSpec := { name := "foldOrders", fn := fun _ => fun
  | [d1, d2] => { results := [.lit (.bool false)], args := [d1, d2] }
  | _ => none }
def FoldOrdersWrongFalsely : Prop := foldOrdersRow.holds Try.pinned (OpenSpec.ofChange foldOrdersWrong)

/-- 'backstitchlaw8.FoldKnown': WHATEVER THE INPUT: true; the input reads as it did. -/
def foldKnownSpec : ChangeSpec := { name := "foldKnown", fn := fun _ => fun
  | [] => { results := [.lit (.bool true)], args := [] }
  | _ => none }
def foldKnownRow : OpenClaim := { program := "ytkcgiolledmbnab", sum := "bb1b3de71226014c4cd04b596513ba4095a150b684ae2ca9103270a8e2f68a2c", func := "backstitch/backstitchlaw8.FoldKnown", spec := "foldKnown", inPlace := ["math.Float64bits"], unfollowed := true, recurses := true, apart := false }
def FoldKnownSaid : Prop := foldKnownRow.holds Try.pinned (OpenSpec.ofChange foldKnownSpec)

/-- ITS FALSE NEIGHBOUR: 'it returns false'. Refute it at one input. -/
def foldKnownWrong : ChangeSpec := { name := "foldKnown", fn := fun _ => fun
  | [] => { results := [.lit (.bool false)], args := [] }
  | _ => none }
def FoldKnownWrongFalsely : Prop := foldKnownRow.holds Try.pinned (OpenSpec.ofChange foldKnownWrong)

/-- 'backstitchlaw8.FoldWhole': WHATEVER THE INPUT: true; the input reads as it did. -/
def foldWholeSpec : ChangeSpec := { name := "foldWhole", fn := fun _ => fun
  | [d1, d2] => { results := [.lit (.bool true)], args := [d1, d2] }
  | _ => none }
def foldWholeRow : OpenClaim := { program := "ytkcgiolledmbnab", sum := "bb1b3de71226014c4cd04b596513ba4095a150b684ae2ca9103270a8e2f68a2c", func := "backstitch/backstitchlaw8.FoldWhole", spec := "foldWhole", inPlace := ["math.Float64bits"], unfollowed := true, recurses := true, apart := false }
def FoldWholeSaid : Prop := foldWholeRow.holds Try.pinned (OpenSpec.ofChange foldWholeSpec)

/-- ITS FALSE NEIGHBOUR: 'it returns false'. Refute it at one input. -/
def foldWholeWrong : ChangeSpec := { name := "foldWhole", fn := fun _ => fun
  | [d1, d2] => { results := [.lit (.bool false)], args := [d1, d2] }
  | _ => none }
def FoldWholeWrongFalsely : Prop := foldWholeRow.holds Try.pinned (OpenSpec.ofChange foldWholeWrong)

/-- 'backstitchlaw8.FoldParts': WHATEVER THE INPUT: true; the input reads as it did. -/
def foldPartsSpec : ChangeSpec := { name := "foldParts", fn := fun _ => fun
  | [d] => { results := [.lit (.bool true)], args := [d] }
  | _ => none }
def foldPartsRow : OpenClaim := { program := "ytkcgiolledmbnab", sum := "bb1b3de71226014c4cd04b596513ba4095a150b684ae2ca9103270a8e2f68a2c", func := "backstitch/backstitchlaw8.FoldParts", spec := "foldParts", inPlace := ["math.Float64bits"], unfollowed := true, recurses := true, apart := false }
def FoldPartsSaid : Prop := foldPartsRow.holds Try.pinned (OpenSpec.ofChange foldPartsSpec)

/-- ITS FALSE NEIGHBOUR: 'it returns false'. Refute it at one input. -/
def foldPartsWrong : ChangeSpec := { name := "foldParts", fn := fun _ => fun
  | [d] => { results := [.lit (.bool false)], args := [d] }
  | _ => none }
def FoldPartsWrongFalsely : Prop := foldPartsRow.holds Try.pinned (OpenSpec.ofChange foldPartsWrong)

/-- 'backstitchlaw3.TensorMakes': WHATEVER THE INPUT: true; the input reads as it did. -/
def tensorMakesSpec : ChangeSpec := { name := "tensorMakes", fn := fun _ => fun
  | [d1, d2, d3] => { results := [.lit (.bool true)], args := [d1, d2, d3] }
  | _ => none }
def tensorMakesRow : OpenClaim := { program := "ytkcgiolledmbnab", sum := "bb1b3de71226014c4cd04b596513ba4095a150b684ae2ca9103270a8e2f68a2c", func := "backstitch/backstitchlaw3.TensorMakes", spec := "tensorMakes", inPlace := ["math.Float64bits", "math.Float64frombits"], unfollowed := true, recurses := true, apart := false }
def TensorMakesSaid : Prop := tensorMakesRow.holds Try.pinned (OpenSpec.ofChange tensorMakesSpec)

/-- ITS FALSE NEIGHBOUR: 'it returns false'. Refute it at one input. -/
def tensorMakesWrong : ChangeSpec := { name := "tensorMakes", fn := fun _ => fun
  | [d1, d2, d3] => { results := [.lit (.bool false)], args := [d1, d2, d3] }
  | _ => none }
def TensorMakesWrongFalsely : Prop := tensorMakesRow.holds Try.pinned (OpenSpec.ofChange tensorMakesWrong)

/-- 'backstitchlaw3.TensorAsks': WHATEVER THE INPUT: true; the input reads as it did. -/
def tensorAsksSpec : ChangeSpec := { name := "tensorAsks", fn := fun _ => fun
  | [d1, d2, d3] => { results := [.lit (.bool true)], args := [d1, d2, d3] }
  | _ => none }
def tensorAsksRow : OpenClaim := { program := "ytkcgiolledmbnab", sum := "bb1b3de71226014c4cd04b596513ba4095a150b684ae2ca9103270a8e2f68a2c", func := "backstitch/backstitchlaw3.TensorAsks", spec := "tensorAsks", inPlace := ["math.Float64bits", "math.Float64frombits"], unfollowed := true, recurses := true, apart := false }
def TensorAsksSaid : Prop := tensorAsksRow.holds Try.pinned (OpenSpec.ofChange tensorAsksSpec)

/-- ITS FALSE NEIGHBOUR: 'it returns false'. Refute it at one input. -/
def tensorAsksWrong : ChangeSpec := { name := "tensorAsks", fn := fun _ => fun
  | [d1, d2, d3] => { results := [.lit (.bool false)], args := [d1, d2, d3] }
  | _ => none }
def TensorAsksWrongFalsely : Prop := tensorAsksRow.holds Try.pinned (OpenSpec.ofChange tensorAsksWrong)

/-- 'backstitchlaw3.TensorKnown': WHATEVER THE INPUT: true; the input reads as it did. -/
def tensorKnownSpec : ChangeSpec := { name := "tensorKnown", fn := fun _ => fun
  | [] => { results := [.lit (.bool true)], args := [] }
  | _ => none }
def tensorKnownRow : OpenClaim := { program := "ytkcgiolledmbnab", sum := "bb1b3de71226014c4cd04b596513ba4095a150b684ae2ca9103270a8e2f68a2c", func := "backstitch/backstitchlaw3.TensorKnown", spec := "tensorKnown", inPlace := ["math.Float64bits", "math.Float64frombits"], unfollowed := true, recurses := true, apart := false }
def TensorKnownSaid : Prop := tensorKnownRow.holds Try.pinned (OpenSpec.ofChange tensorKnownSpec)

/-- ITS FALSE NEIGHBOUR: 'it returns false'. Refute it at one input. -/
def tensorKnownWrong : ChangeSpec := { name := "tensorKnown", fn := fun _ => fun
  | [] => { results := [.lit (.bool false)], args := [] }
  | _ => none }
def TensorKnownWrongFalsely : Prop := tensorKnownRow.holds Try.pinned (OpenSpec.ofChange tensorKnownWrong)

/-- 'backstitchlaw3.TensorHands': WHATEVER THE INPUT: true; the input reads as it did. -/
def tensorHandsSpec : ChangeSpec := { name := "tensorHands", fn := fun _ => fun
  | [d1, d2] => { results := [.lit (.bool true)], args := [d1, d2] }
  | _ => none }
def tensorHandsRow : OpenClaim := { program := "ytkcgiolledmbnab", sum := "bb1b3de71226014c4cd04b596513ba4095a150b684ae2ca9103270a8e2f68a2c", func := "backstitch/backstitchlaw3.TensorHands", spec := "tensorHands", inPlace := ["math.Float64bits", "math.Float64frombits"], unfollowed := true, recurses := true, apart := false }
def TensorHandsSaid : Prop := tensorHandsRow.holds Try.pinned (OpenSpec.ofChange tensorHandsSpec)

/-- ITS FALSE NEIGHBOUR: 'it returns false'. Refute it at one input. -/
def tensorHandsWrong : ChangeSpec := { name := "tensorHands", fn := fun _ => fun
  | [d1, d2] => { results := [.lit (.bool false)], args := [d1, d2] }
  | _ => none }
def TensorHandsWrongFalsely : Prop := tensorHandsRow.holds Try.pinned (OpenSpec.ofChange tensorHandsWrong)

/-- 'backstitchlaw4.KernelShapes': WHATEVER THE INPUT: true; the input reads as it did. -/
def kernelShapesSpec : ChangeSpec := { name := "kernelShapes", fn := fun _ => fun
  | [d1, d2, d3] => { results := [.lit (.bool true)], args := [d1, d2, d3] }
  | _ => none }
def kernelShapesRow : OpenClaim := { program := "ytkcgiolledmbnab", sum := "bb1b3de71226014c4cd04b596513ba4095a150b684ae2ca9103270a8e2f68a2c", func := "backstitch/backstitchlaw4.KernelShapes", spec := "kernelShapes", inPlace := ["math.Float64bits"], unfollowed := true, recurses := true, apart := false }
def KernelShapesSaid : Prop := kernelShapesRow.holds Try.pinned (OpenSpec.ofChange kernelShapesSpec)

/-- ITS FALSE NEIGHBOUR: 'it returns false'. Refute it at one input. -/
def kernelShapesWrong : ChangeSpec := { name := "kernelShapes", fn := fun _ => fun
  | [d1, d2, d3] => { results := [.lit (.bool false)], args := [d1, d2, d3] }
  | _ => none }
def KernelShapesWrongFalsely : Prop := kernelShapesRow.holds Try.pinned (OpenSpec.ofChange kernelShapesWrong)

/-- 'backstitchlaw4.KernelPlaces': WHATEVER THE INPUT: true; the input reads as it did. -/
def kernelPlacesSpec : ChangeSpec := { name := "kernelPlaces", fn := fun _ => fun
  | [d1, d2] => { results := [.lit (.bool true)], args := [d1, d2] }
  | _ => none }
def kernelPlacesRow : OpenClaim := { program := "ytkcgiolledmbnab", sum := "bb1b3de71226014c4cd04b596513ba4095a150b684ae2ca9103270a8e2f68a2c", func := "backstitch/backstitchlaw4.KernelPlaces", spec := "kernelPlaces", inPlace := ["math.Float64bits"], unfollowed := true, recurses := true, apart := false }
def KernelPlacesSaid : Prop := kernelPlacesRow.holds Try.pinned (OpenSpec.ofChange kernelPlacesSpec)

/-- ITS FALSE NEIGHBOUR: 'it returns false'. Refute it at one input. -/
def kernelPlacesWrong : ChangeSpec := { name := "kernelPlaces", fn := fun _ => fun
  | [d1, d2] => { results := [.lit (.bool false)], args := [d1, d2] }
  | _ => none }
def KernelPlacesWrongFalsely : Prop := kernelPlacesRow.holds Try.pinned (OpenSpec.ofChange kernelPlacesWrong)

/-- 'backstitchlaw4.KernelGathers': WHATEVER THE INPUT: true; the input reads as it did. -/
def kernelGathersSpec : ChangeSpec := { name := "kernelGathers", fn := fun _ => fun
  | [d1, d2] => { results := [.lit (.bool true)], args := [d1, d2] }
  | _ => none }
def kernelGathersRow : OpenClaim := { program := "ytkcgiolledmbnab", sum := "bb1b3de71226014c4cd04b596513ba4095a150b684ae2ca9103270a8e2f68a2c", func := "backstitch/backstitchlaw4.KernelGathers", spec := "kernelGathers", unfollowed := true, recurses := true, apart := false }
def KernelGathersSaid : Prop := kernelGathersRow.holds Try.pinned (OpenSpec.ofChange kernelGathersSpec)

/-- ITS FALSE NEIGHBOUR: 'it returns false'. Refute it at one input. -/
def kernelGathersWrong : ChangeSpec := { name := "kernelGathers", fn := fun _ => fun
  | [d1, d2] => { results := [.lit (.bool false)], args := [d1, d2] }
  | _ => none }
def KernelGathersWrongFalsely : Prop := kernelGathersRow.holds Try.pinned (OpenSpec.ofChange kernelGathersWrong)

/- THE SECOND FORM. 'bulk': how many values and letters a reading holds, each counted each time it is reached (what is shared counts as often as it is met; a slice's spare places count too). A statement '..UptoSaid' is the law's where the arguments, and the package variables that the reading takes, are together of bulk at most 1048576: NARROWER than '..Said'. Prove '..Said' where nothing that the law and all that it calls make is longer than what came in: it says more and counts as full. Else prove '..UptoSaid'. A law counts once. -/
mutual
def uptoBulk {H : Type} : DataW H → Nat
  | .lit (.string bytes) => bytes.length + 1
  | .lit _ => 1
  | .nil => 1
  | .ptr d => uptoBulk d + 1
  | .slice elems spare => uptoBulkAll elems + uptoBulkAll spare + 1
  | .agg parts => uptoBulkAll parts + 1
  | .iface _ d => uptoBulk d + 1
  | .map entries => uptoBulkEntries entries + 1
  | .held _ => 1
def uptoBulkAll {H : Type} : List (DataW H) → Nat
  | [] => 0
  | d :: r => uptoBulk d + uptoBulkAll r
def uptoBulkEntries {H : Type} : List (Lit × DataW H) → Nat
  | [] => 0
  | x :: r => uptoBulkEntry x + uptoBulkEntries r
def uptoBulkEntry {H : Type} : Lit × DataW H → Nat
  | (.string bytes, d) => bytes.length + uptoBulk d + 1
  | (_, d) => uptoBulk d + 1
 end
def uptoSmall : (H : Type) → List (DataW H) → Bool := fun _ ds => decide (uptoBulkAll ds ≤ 1048576)
def OpenSpec.upto (s : _root_.Go.ChangeSpec) : _root_.Go.OpenSpec := { _root_.Go.OpenSpec.ofChange s with cond := some uptoSmall }

/-- 'backstitchlaw8.FoldTrees', WHERE WHAT IT READS IS OF BULK AT MOST 1048576: true; the input reads as it did. -/
def foldTreesUptoRow : OpenClaim := { program := "ytkcgiolledmbnab", sum := "bb1b3de71226014c4cd04b596513ba4095a150b684ae2ca9103270a8e2f68a2c", func := "backstitch/backstitchlaw8.FoldTrees", spec := "foldTrees", inPlace := ["math.Float64bits"], unfollowed := true, recurses := true, apart := false, narrowed := true }
def FoldTreesUptoSaid : Prop := foldTreesUptoRow.holds Try.pinned (OpenSpec.upto foldTreesSpec)

/-- 'backstitchlaw8.FoldOrders', WHERE WHAT IT READS IS OF BULK AT MOST 1048576: true; the input reads as it did. -/
def foldOrdersUptoRow : OpenClaim := { program := "ytkcgiolledmbnab", sum := "bb1b3de71226014c4cd04b596513ba4095a150b684ae2ca9103270a8e2f68a2c", func := "backstitch/backstitchlaw8.FoldOrders", spec := "foldOrders", inPlace := ["math.Float64bits"], unfollowed := true, recurses := true, apart := false, narrowed := true }
def FoldOrdersUptoSaid : Prop := foldOrdersUptoRow.holds Try.pinned (OpenSpec.upto foldOrdersSpec)

/-- 'backstitchlaw8.FoldKnown', WHERE WHAT IT READS IS OF BULK AT MOST 1048576: true; the input reads as it did. -/
def foldKnownUptoRow : OpenClaim := { program := "ytkcgiolledmbnab", sum := "bb1b3de71226014c4cd04b596513ba4095a150b684ae2ca9103270a8e2f68a2c", func := "backstitch/backstitchlaw8.FoldKnown", spec := "foldKnown", inPlace := ["math.Float64bits"], unfollowed := true, recurses := true, apart := false, narrowed := true }
def FoldKnownUptoSaid : Prop := foldKnownUptoRow.holds Try.pinned (OpenSpec.upto foldKnownSpec)

/-- 'backstitchlaw8.FoldWhole', WHERE WHAT IT READS IS OF BULK AT MOST 1048576: true; the input reads as it did. -/
def foldWholeUptoRow : OpenClaim := { program := "ytkcgiolledmbnab", sum := "bb1b3de71226014c4cd04b596513ba4095a150b684ae2ca9103270a8e2f68a2c", func := "backstitch/backstitchlaw8.FoldWhole", spec := "foldWhole", inPlace := ["math.Float64bits"], unfollowed := true, recurses := true, apart := false, narrowed := true }
def FoldWholeUptoSaid : Prop := foldWholeUptoRow.holds Try.pinned (OpenSpec.upto foldWholeSpec)

/-- 'backstitchlaw8.FoldParts', WHERE WHAT IT READS IS OF BULK AT MOST 1048576: true; the input reads as it did. -/
def foldPartsUptoRow : OpenClaim := { program := "ytkcgiolledmbnab", sum := "bb1b3de71226014c4cd04b596513ba4095a150b684ae2ca9103270a8e2f68a2c", func := "backstitch/backstitchlaw8.FoldParts", spec := "foldParts", inPlace := ["math.Float64bits"], unfollowed := true, recurses := true, apart := false, narrowed := true }
def FoldPartsUptoSaid : Prop := foldPartsUptoRow.holds Try.pinned (OpenSpec.upto foldPartsSpec)

/-- 'backstitchlaw3.TensorMakes', WHERE WHAT IT READS IS OF BULK AT MOST 1048576: true; the input reads as it did. -/
def tensorMakesUptoRow : OpenClaim := { program := "ytkcgiolledmbnab", sum := "bb1b3de71226014c4cd04b596513ba4095a150b684ae2ca9103270a8e2f68a2c", func := "backstitch/backstitchlaw3.TensorMakes", spec := "tensorMakes", inPlace := ["math.Float64bits", "math.Float64frombits"], unfollowed := true, recurses := true, apart := false, narrowed := true }
def TensorMakesUptoSaid : Prop := tensorMakesUptoRow.holds Try.pinned (OpenSpec.upto tensorMakesSpec)

/-- 'backstitchlaw3.TensorAsks', WHERE WHAT IT READS IS OF BULK AT MOST 1048576: true; the input reads as it did. -/
def tensorAsksUptoRow : OpenClaim := { program := "ytkcgiolledmbnab", sum := "bb1b3de71226014c4cd04b596513ba4095a150b684ae2ca9103270a8e2f68a2c", func := "backstitch/backstitchlaw3.TensorAsks", spec := "tensorAsks", inPlace := ["math.Float64bits", "math.Float64frombits"], unfollowed := true, recurses := true, apart := false, narrowed := true }
def TensorAsksUptoSaid : Prop := tensorAsksUptoRow.holds Try.pinned (OpenSpec.upto tensorAsksSpec)

/-- 'backstitchlaw3.TensorKnown', WHERE WHAT IT READS IS OF BULK AT MOST 1048576: true; the input reads as it did. -/
def tensorKnownUptoRow : OpenClaim := { program := "ytkcgiolledmbnab", sum := "bb1b3de71226014c4cd04b596513ba4095a150b684ae2ca9103270a8e2f68a2c", func := "backstitch/backstitchlaw3.TensorKnown", spec := "tensorKnown", inPlace := ["math.Float64bits", "math.Float64frombits"], unfollowed := true, recurses := true, apart := false, narrowed := true }
def TensorKnownUptoSaid : Prop := tensorKnownUptoRow.holds Try.pinned (OpenSpec.upto tensorKnownSpec)

/-- 'backstitchlaw3.TensorHands', WHERE WHAT IT READS IS OF BULK AT MOST 1048576: true; the input reads as it did. -/
def tensorHandsUptoRow : OpenClaim := { program := "ytkcgiolledmbnab", sum := "bb1b3de71226014c4cd04b596513ba4095a150b684ae2ca9103270a8e2f68a2c", func := "backstitch/backstitchlaw3.TensorHands", spec := "tensorHands", inPlace := ["math.Float64bits", "math.Float64frombits"], unfollowed := true, recurses := true, apart := false, narrowed := true }
def TensorHandsUptoSaid : Prop := tensorHandsUptoRow.holds Try.pinned (OpenSpec.upto tensorHandsSpec)

/-- 'backstitchlaw4.KernelShapes', WHERE WHAT IT READS IS OF BULK AT MOST 1048576: true; the input reads as it did. -/
def kernelShapesUptoRow : OpenClaim := { program := "ytkcgiolledmbnab", sum := "bb1b3de71226014c4cd04b596513ba4095a150b684ae2ca9103270a8e2f68a2c", func := "backstitch/backstitchlaw4.KernelShapes", spec := "kernelShapes", inPlace := ["math.Float64bits"], unfollowed := true, recurses := true, apart := false, narrowed := true }
def KernelShapesUptoSaid : Prop := kernelShapesUptoRow.holds Try.pinned (OpenSpec.upto kernelShapesSpec)

/-- 'backstitchlaw4.KernelPlaces', WHERE WHAT IT READS IS OF BULK AT MOST 1048576: true; the input reads as it did. -/
def kernelPlacesUptoRow : OpenClaim := { program := "ytkcgiolledmbnab", sum := "bb1b3de71226014c4cd04b596513ba4095a150b684ae2ca9103270a8e2f68a2c", func := "backstitch/backstitchlaw4.KernelPlaces", spec := "kernelPlaces", inPlace := ["math.Float64bits"], unfollowed := true, recurses := true, apart := false, narrowed := true }
def KernelPlacesUptoSaid : Prop := kernelPlacesUptoRow.holds Try.pinned (OpenSpec.upto kernelPlacesSpec)

/-- 'backstitchlaw4.KernelGathers', WHERE WHAT IT READS IS OF BULK AT MOST 1048576: true; the input reads as it did. -/
def kernelGathersUptoRow : OpenClaim := { program := "ytkcgiolledmbnab", sum := "bb1b3de71226014c4cd04b596513ba4095a150b684ae2ca9103270a8e2f68a2c", func := "backstitch/backstitchlaw4.KernelGathers", spec := "kernelGathers", unfollowed := true, recurses := true, apart := false, narrowed := true }
def KernelGathersUptoSaid : Prop := kernelGathersUptoRow.holds Try.pinned (OpenSpec.upto kernelGathersSpec)

end Rows
end Go.Proofs.Ytkcgiolledmbnab
