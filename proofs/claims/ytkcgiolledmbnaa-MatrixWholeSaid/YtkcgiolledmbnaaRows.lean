/-
  No cell of these rows narrows 'for every input' (looked for: loops, veiled, ifaces, maps, wideKeys, modest, calm, conditions, laid).
  DERIVED. THE GIVEN ROWS OF THIS SEAT. 12 by the template 'for every input the law returns true; each argument reads behind the call as it read before'; 0 by the template 'total and deterministic' (their statements: YtkcgiolledmbnaaTotals.lean).
  GIVEN WITH THE SEED: the statements are not yours to turn. If you find one false, say at which input.
  Laid BY PROGRAM, IN A SANDBOX (cutbox-rows.mjs): the forced cells as the released guide's own fill.sh prints them over the translation 1380e4938edf9b8f… (all of the seat's roots in one cut). By AI agents, Wed Nov 11 2026. No macro, syntax, notation, axiom, sorry.
-/
import Derived.Test.YtkcgiolledmbnaaChecked
import GoSem.Claim
import GoSem.ClaimJoined
import GoSem.ClaimMapViews
import Derived.JoinedTies
import Derived.KernelRfl
namespace Go.Proofs.Ytkcgiolledmbnaa
/- THE CELL 'sum', in the pinned program and in every row, IS THE sha256 OF THE DUMP (.gsa) THAT YtkcgiolledmbnaaProg.lean LOADS. Nothing in Lean hashes anything: it is a label: what it is worth is what the hold of that sum in a sandbox is worth. -/
noncomputable def Try.pinned : Pinned := { name := "ytkcgiolledmbnaa", sum := "1380e4938edf9b8ffb900e668d9e4adfa10c637711d99242d6a3158471ad8cfe", checked := Try.checked }
namespace Rows
def none {H : Type} : Left H := { results := [], args := [] }

/-- 'backstitchlaw1.ShapeSpreads': WHATEVER THE INPUT: true; the input reads as it did. -/
def shapeSpreadsSpec : ChangeSpec := { name := "shapeSpreads", fn := fun _ => fun
  | [d1, d2] => { results := [.lit (.bool true)], args := [d1, d2] }
  | _ => none }
def shapeSpreadsRow : OpenClaim := { program := "ytkcgiolledmbnaa", sum := "1380e4938edf9b8ffb900e668d9e4adfa10c637711d99242d6a3158471ad8cfe", func := "backstitch/backstitchlaw1.ShapeSpreads", spec := "shapeSpreads", unfollowed := true, recurses := true, apart := false }
def ShapeSpreadsSaid : Prop := shapeSpreadsRow.holds Try.pinned (OpenSpec.ofChange shapeSpreadsSpec)

/-- ITS FALSE NEIGHBOUR: 'it returns false'. Refute it at one input. -/
def shapeSpreadsWrong : ChangeSpec := { name := "shapeSpreads", fn := fun _ => fun
  | [d1, d2] => { results := [.lit (.bool false)], args := [d1, d2] }
  | _ => none }
def ShapeSpreadsWrongFalsely : Prop := shapeSpreadsRow.holds Try.pinned (OpenSpec.ofChange shapeSpreadsWrong)

/-- 'backstitchlaw1.ShapeKnown': WHATEVER THE INPUT: true; the input reads as it did. -/
def shapeKnownSpec : ChangeSpec := { name := "shapeKnown", fn := fun _ => fun
  | [] => { results := [.lit (.bool true)], args := [] }
  | _ => none }
def shapeKnownRow : OpenClaim := { program := "ytkcgiolledmbnaa", sum := "1380e4938edf9b8ffb900e668d9e4adfa10c637711d99242d6a3158471ad8cfe", func := "backstitch/backstitchlaw1.ShapeKnown", spec := "shapeKnown", unfollowed := true, recurses := true, apart := false }
def ShapeKnownSaid : Prop := shapeKnownRow.holds Try.pinned (OpenSpec.ofChange shapeKnownSpec)

/-- ITS FALSE NEIGHBOUR: 'it returns false'. Refute it at one input. -/
def shapeKnownWrong : ChangeSpec := { name := "shapeKnown", fn := fun _ => fun
  | [] => { results := [.lit (.bool false)], args := [] }
  | _ => none }
def ShapeKnownWrongFalsely : Prop := shapeKnownRow.holds Try.pinned (OpenSpec.ofChange shapeKnownWrong)

/-- 'backstitchlaw1.ShapeThree': WHATEVER THE INPUT: true; the input reads as it did. -/
def shapeThreeSpec : ChangeSpec := { name := "shapeThree", fn := fun _ => fun
  | [d1, d2, d3] => { results := [.lit (.bool true)], args := [d1, d2, d3] }
  | _ => none }
def shapeThreeRow : OpenClaim := { program := "ytkcgiolledmbnaa", sum := "1380e4938edf9b8ffb900e668d9e4adfa10c637711d99242d6a3158471ad8cfe", func := "backstitch/backstitchlaw1.ShapeThree", spec := "shapeThree", unfollowed := true, recurses := true, apart := false }
def ShapeThreeSaid : Prop := shapeThreeRow.holds Try.pinned (OpenSpec.ofChange shapeThreeSpec)

/-- ITS FALSE NEIGHBOUR: 'it returns false'. Refute it at one input. -/
def shapeThreeWrong : ChangeSpec := { name := "shapeThree", fn := fun _ => fun
  | [d1, d2, d3] => { results := [.lit (.bool false)], args := [d1, d2, d3] }
  | _ => none }
def ShapeThreeWrongFalsely : Prop := shapeThreeRow.holds Try.pinned (OpenSpec.ofChange shapeThreeWrong)

/-- 'backstitchlaw1.ShapeOnes': WHATEVER THE INPUT: true; the input reads as it did. -/
def shapeOnesSpec : ChangeSpec := { name := "shapeOnes", fn := fun _ => fun
  | [d1, d2] => { results := [.lit (.bool true)], args := [d1, d2] }
  | _ => none }
def shapeOnesRow : OpenClaim := { program := "ytkcgiolledmbnaa", sum := "1380e4938edf9b8ffb900e668d9e4adfa10c637711d99242d6a3158471ad8cfe", func := "backstitch/backstitchlaw1.ShapeOnes", spec := "shapeOnes", unfollowed := true, recurses := true, apart := false }
def ShapeOnesSaid : Prop := shapeOnesRow.holds Try.pinned (OpenSpec.ofChange shapeOnesSpec)

/-- ITS FALSE NEIGHBOUR: 'it returns false'. Refute it at one input. -/
def shapeOnesWrong : ChangeSpec := { name := "shapeOnes", fn := fun _ => fun
  | [d1, d2] => { results := [.lit (.bool false)], args := [d1, d2] }
  | _ => none }
def ShapeOnesWrongFalsely : Prop := shapeOnesRow.holds Try.pinned (OpenSpec.ofChange shapeOnesWrong)

/-- 'backstitchlaw1.ShapeReckons': WHATEVER THE INPUT: true; the input reads as it did. -/
def shapeReckonsSpec : ChangeSpec := { name := "shapeReckons", fn := fun _ => fun
  | [d1, d2, d3] => { results := [.lit (.bool true)], args := [d1, d2, d3] }
  | _ => none }
def shapeReckonsRow : OpenClaim := { program := "ytkcgiolledmbnaa", sum := "1380e4938edf9b8ffb900e668d9e4adfa10c637711d99242d6a3158471ad8cfe", func := "backstitch/backstitchlaw1.ShapeReckons", spec := "shapeReckons", unfollowed := true, recurses := true, apart := false }
def ShapeReckonsSaid : Prop := shapeReckonsRow.holds Try.pinned (OpenSpec.ofChange shapeReckonsSpec)

/-- ITS FALSE NEIGHBOUR: 'it returns false'. Refute it at one input. -/
def shapeReckonsWrong : ChangeSpec := { name := "shapeReckons", fn := fun _ => fun
  | [d1, d2, d3] => { results := [.lit (.bool false)], args := [d1, d2, d3] }
  | _ => none }
def ShapeReckonsWrongFalsely : Prop := shapeReckonsRow.holds Try.pinned (OpenSpec.ofChange shapeReckonsWrong)

/-- 'backstitchlaw1.ShapePlaces': WHATEVER THE INPUT: true; the input reads as it did. -/
def shapePlacesSpec : ChangeSpec := { name := "shapePlaces", fn := fun _ => fun
  | [d] => { results := [.lit (.bool true)], args := [d] }
  | _ => none }
def shapePlacesRow : OpenClaim := { program := "ytkcgiolledmbnaa", sum := "1380e4938edf9b8ffb900e668d9e4adfa10c637711d99242d6a3158471ad8cfe", func := "backstitch/backstitchlaw1.ShapePlaces", spec := "shapePlaces", unfollowed := true, recurses := true, apart := false }
def ShapePlacesSaid : Prop := shapePlacesRow.holds Try.pinned (OpenSpec.ofChange shapePlacesSpec)

/-- ITS FALSE NEIGHBOUR: 'it returns false'. Refute it at one input. -/
def shapePlacesWrong : ChangeSpec := { name := "shapePlaces", fn := fun _ => fun
  | [d] => { results := [.lit (.bool false)], args := [d] }
  | _ => none }
def ShapePlacesWrongFalsely : Prop := shapePlacesRow.holds Try.pinned (OpenSpec.ofChange shapePlacesWrong)

/-- 'backstitchlaw5.MatrixRows': WHATEVER THE INPUT: true; the input reads as it did. -/
def matrixRowsSpec : ChangeSpec := { name := "matrixRows", fn := fun _ => fun
  | [d1, d2, d3] => { results := [.lit (.bool true)], args := [d1, d2, d3] }
  | _ => none }
def matrixRowsRow : OpenClaim := { program := "ytkcgiolledmbnaa", sum := "1380e4938edf9b8ffb900e668d9e4adfa10c637711d99242d6a3158471ad8cfe", func := "backstitch/backstitchlaw5.MatrixRows", spec := "matrixRows", inPlace := ["math.Float64bits"], unfollowed := true, recurses := true, apart := false }
def MatrixRowsSaid : Prop := matrixRowsRow.holds Try.pinned (OpenSpec.ofChange matrixRowsSpec)

/-- ITS FALSE NEIGHBOUR: 'it returns false'. Refute it at one input. -/
def matrixRowsWrong : ChangeSpec := { name := "matrixRows", fn := fun _ => fun
  | [d1, d2, d3] => { results := [.lit (.bool false)], args := [d1, d2, d3] }
  | _ => none }
def MatrixRowsWrongFalsely : Prop := matrixRowsRow.holds Try.pinned (OpenSpec.ofChange matrixRowsWrong)

/-- 'backstitchlaw5.MatrixWhole': WHATEVER THE INPUT: true; the input reads as it did. -/
def matrixWholeSpec : ChangeSpec := { name := "matrixWhole", fn := fun _ => fun
  | [d1, d2] => { results := [.lit (.bool true)], args := [d1, d2] }
  | _ => none }
def matrixWholeRow : OpenClaim := { program := "ytkcgiolledmbnaa", sum := "1380e4938edf9b8ffb900e668d9e4adfa10c637711d99242d6a3158471ad8cfe", func := "backstitch/backstitchlaw5.MatrixWhole", spec := "matrixWhole", unfollowed := true, recurses := true, apart := false }
def MatrixWholeSaid : Prop := matrixWholeRow.holds Try.pinned (OpenSpec.ofChange matrixWholeSpec)

/-- ITS FALSE NEIGHBOUR: 'it returns false'. Refute it at one input. -/
def matrixWholeWrong : ChangeSpec := { name := "matrixWhole", fn := fun _ => fun
  | [d1, d2] => { results := [.lit (.bool false)], args := [d1, d2] }
  | _ => none }
def MatrixWholeWrongFalsely : Prop := matrixWholeRow.holds Try.pinned (OpenSpec.ofChange matrixWholeWrong)

/-- 'backstitchlaw5.MatrixSums': WHATEVER THE INPUT: true; the input reads as it did. -/
def matrixSumsSpec : ChangeSpec := { name := "matrixSums", fn := fun _ => fun
  | [d1, d2] => { results := [.lit (.bool true)], args := [d1, d2] }
  | _ => none }
def matrixSumsRow : OpenClaim := { program := "ytkcgiolledmbnaa", sum := "1380e4938edf9b8ffb900e668d9e4adfa10c637711d99242d6a3158471ad8cfe", func := "backstitch/backstitchlaw5.MatrixSums", spec := "matrixSums", inPlace := ["math.Float64bits"], unfollowed := true, recurses := true, apart := false }
def MatrixSumsSaid : Prop := matrixSumsRow.holds Try.pinned (OpenSpec.ofChange matrixSumsSpec)

/-- ITS FALSE NEIGHBOUR: 'it returns false'. Refute it at one input. -/
def matrixSumsWrong : ChangeSpec := { name := "matrixSums", fn := fun _ => fun
  | [d1, d2] => { results := [.lit (.bool false)], args := [d1, d2] }
  | _ => none }
def MatrixSumsWrongFalsely : Prop := matrixSumsRow.holds Try.pinned (OpenSpec.ofChange matrixSumsWrong)

/-- 'backstitchlaw5.MatrixOne': WHATEVER THE INPUT: true; the input reads as it did. -/
def matrixOneSpec : ChangeSpec := { name := "matrixOne", fn := fun _ => fun
  | [d] => { results := [.lit (.bool true)], args := [d] }
  | _ => none }
def matrixOneRow : OpenClaim := { program := "ytkcgiolledmbnaa", sum := "1380e4938edf9b8ffb900e668d9e4adfa10c637711d99242d6a3158471ad8cfe", func := "backstitch/backstitchlaw5.MatrixOne", spec := "matrixOne", inPlace := ["math.Float64bits", "math.Float64frombits"], unfollowed := true, recurses := true, apart := false }
def MatrixOneSaid : Prop := matrixOneRow.holds Try.pinned (OpenSpec.ofChange matrixOneSpec)

/-- ITS FALSE NEIGHBOUR: 'it returns false'. Refute it at one input. -/
def matrixOneWrong : ChangeSpec := { name := "matrixOne", fn := fun _ => fun
  | [d] => { results := [.lit (.bool false)], args := [d] }
  | _ => none }
def MatrixOneWrongFalsely : Prop := matrixOneRow.holds Try.pinned (OpenSpec.ofChange matrixOneWrong)

/-- 'backstitchlaw5.MatrixMuls': WHATEVER THE INPUT: true; the input reads as it did. -/
def matrixMulsSpec : ChangeSpec := { name := "matrixMuls", fn := fun _ => fun
  | [d1, d2] => { results := [.lit (.bool true)], args := [d1, d2] }
  | _ => none }
def matrixMulsRow : OpenClaim := { program := "ytkcgiolledmbnaa", sum := "1380e4938edf9b8ffb900e668d9e4adfa10c637711d99242d6a3158471ad8cfe", func := "backstitch/backstitchlaw5.MatrixMuls", spec := "matrixMuls", inPlace := ["math.Float64bits"], unfollowed := true, recurses := true, apart := false }
def MatrixMulsSaid : Prop := matrixMulsRow.holds Try.pinned (OpenSpec.ofChange matrixMulsSpec)

/-- ITS FALSE NEIGHBOUR: 'it returns false'. Refute it at one input. -/
def matrixMulsWrong : ChangeSpec := { name := "matrixMuls", fn := fun _ => fun
  | [d1, d2] => { results := [.lit (.bool false)], args := [d1, d2] }
  | _ => none }
def MatrixMulsWrongFalsely : Prop := matrixMulsRow.holds Try.pinned (OpenSpec.ofChange matrixMulsWrong)

/-- 'backstitchlaw5.MatrixKnown': WHATEVER THE INPUT: true; the input reads as it did. -/
def matrixKnownSpec : ChangeSpec := { name := "matrixKnown", fn := fun _ => fun
  | [] => { results := [.lit (.bool true)], args := [] }
  | _ => none }
def matrixKnownRow : OpenClaim := { program := "ytkcgiolledmbnaa", sum := "1380e4938edf9b8ffb900e668d9e4adfa10c637711d99242d6a3158471ad8cfe", func := "backstitch/backstitchlaw5.MatrixKnown", spec := "matrixKnown", inPlace := ["math.Float64bits"], unfollowed := true, recurses := true, apart := false }
def MatrixKnownSaid : Prop := matrixKnownRow.holds Try.pinned (OpenSpec.ofChange matrixKnownSpec)

/-- ITS FALSE NEIGHBOUR: 'it returns false'. Refute it at one input. -/
def matrixKnownWrong : ChangeSpec := { name := "matrixKnown", fn := fun _ => fun
  | [] => { results := [.lit (.bool false)], args := [] }
  | _ => none }
def MatrixKnownWrongFalsely : Prop := matrixKnownRow.holds Try.pinned (OpenSpec.ofChange matrixKnownWrong)

/- THE SECOND FORM. 'bulk': how many values and letters a reading holds, each counted each time it is reached (what is shared counts as often as it is met; a slice's spare places count too). A statement '..UptoSaid' is the law's where the arguments, and the package variables that the reading takes, are together of bulk at most 1048576: NARROWER than '..Said'. Prove '..Said' where nothing that the law and all that it calls make is longer than what came in: it says more and counts as full. Else prove '..UptoSaid'. A law counts once. -/
mutual
def uptoBulk {H : Type} : DataW H → Nat
  | .lit (.string bytes) => bytes.length + 1
  | .lit _ => 1
  | .nil => 1
  | .ptr d => uptoBulk d + 1
  | .slice elems spare => uptoBulkAll elems + uptoBulkAll spare + 1
  | .agg parts => uptoBulkAll parts + 1
  | .iface _ d => uptoBulk d + 1
  | .map entries => uptoBulkEntries entries + 1
  | .held _ => 1
def uptoBulkAll {H : Type} : List (DataW H) → Nat
  | [] => 0
  | d :: r => uptoBulk d + uptoBulkAll r
def uptoBulkEntries {H : Type} : List (Lit × DataW H) → Nat
  | [] => 0
  | x :: r => uptoBulkEntry x + uptoBulkEntries r
def uptoBulkEntry {H : Type} : Lit × DataW H → Nat
  | (.string bytes, d) => bytes.length + uptoBulk d + 1
  | (_, d) => uptoBulk d + 1
 end
def uptoSmall : (H : Type) → List (DataW H) → Bool := fun _ ds => decide (uptoBulkAll ds ≤ 1048576)
def OpenSpec.upto (s : _root_.Go.ChangeSpec) : _root_.Go.OpenSpec := { _root_.Go.OpenSpec.ofChange s with cond := some uptoSmall }

/-- 'backstitchlaw1.ShapeSpreads', WHERE WHAT IT READS IS OF BULK AT MOST 1048576: true; the input reads as it did. -/
def shapeSpreadsUptoRow : OpenClaim := { program := "ytkcgiolledmbnaa", sum := "1380e4938edf9b8ffb900e668d9e4adfa10c637711d99242d6a3158471ad8cfe", func := "backstitch/backstitchlaw1.ShapeSpreads", spec := "shapeSpreads", unfollowed := true, recurses := true, apart := false, narrowed := true }
def ShapeSpreadsUptoSaid : Prop := shapeSpreadsUptoRow.holds Try.pinned (OpenSpec.upto shapeSpreadsSpec)

/-- 'backstitchlaw1.ShapeKnown', WHERE WHAT IT READS IS OF BULK AT MOST 1048576: true; the input reads as it did. -/
def shapeKnownUptoRow : OpenClaim := { program := "ytkcgiolledmbnaa", sum := "1380e4938edf9b8ffb900e668d9e4adfa10c637711d99242d6a3158471ad8cfe", func := "backstitch/backstitchlaw1.ShapeKnown", spec := "shapeKnown", unfollowed := true, recurses := true, apart := false, narrowed := true }
def ShapeKnownUptoSaid : Prop := shapeKnownUptoRow.holds Try.pinned (OpenSpec.upto shapeKnownSpec)

/-- 'backstitchlaw1.ShapeThree', WHERE WHAT IT READS IS OF BULK AT MOST 1048576: true; the input reads as it did. -/
def shapeThreeUptoRow : OpenClaim := { program := "ytkcgiolledmbnaa", sum := "1380e4938edf9b8ffb900e668d9e4adfa10c637711d99242d6a3158471ad8cfe", func := "backstitch/backstitchlaw1.ShapeThree", spec := "shapeThree", unfollowed := true, recurses := true, apart := false, narrowed := true }
def ShapeThreeUptoSaid : Prop := shapeThreeUptoRow.holds Try.pinned (OpenSpec.upto shapeThreeSpec)

/-- 'backstitchlaw1.ShapeOnes', WHERE WHAT IT READS IS OF BULK AT MOST 1048576: true; the input reads as it did. -/
def shapeOnesUptoRow : OpenClaim := { program := "ytkcgiolledmbnaa", sum := "1380e4938edf9b8ffb900e668d9e4adfa10c637711d99242d6a3158471ad8cfe", func := "backstitch/backstitchlaw1.ShapeOnes", spec := "shapeOnes", unfollowed := true, recurses := true, apart := false, narrowed := true }
def ShapeOnesUptoSaid : Prop := shapeOnesUptoRow.holds Try.pinned (OpenSpec.upto shapeOnesSpec)

/-- 'backstitchlaw1.ShapeReckons', WHERE WHAT IT READS IS OF BULK AT MOST 1048576: true; the input reads as it did. -/
def shapeReckonsUptoRow : OpenClaim := { program := "ytkcgiolledmbnaa", sum := "1380e4938edf9b8ffb900e668d9e4adfa10c637711d99242d6a3158471ad8cfe", func := "backstitch/backstitchlaw1.ShapeReckons", spec := "shapeReckons", unfollowed := true, recurses := true, apart := false, narrowed := true }
def ShapeReckonsUptoSaid : Prop := shapeReckonsUptoRow.holds Try.pinned (OpenSpec.upto shapeReckonsSpec)

/-- 'backstitchlaw1.ShapePlaces', WHERE WHAT IT READS IS OF BULK AT MOST 1048576: true; the input reads as it did. -/
def shapePlacesUptoRow : OpenClaim := { program := "ytkcgiolledmbnaa", sum := "1380e4938edf9b8ffb900e668d9e4adfa10c637711d99242d6a3158471ad8cfe", func := "backstitch/backstitchlaw1.ShapePlaces", spec := "shapePlaces", unfollowed := true, recurses := true, apart := false, narrowed := true }
def ShapePlacesUptoSaid : Prop := shapePlacesUptoRow.holds Try.pinned (OpenSpec.upto shapePlacesSpec)

/-- 'backstitchlaw5.MatrixRows', WHERE WHAT IT READS IS OF BULK AT MOST 1048576: true; the input reads as it did. -/
def matrixRowsUptoRow : OpenClaim := { program := "ytkcgiolledmbnaa", sum := "1380e4938edf9b8ffb900e668d9e4adfa10c637711d99242d6a3158471ad8cfe", func := "backstitch/backstitchlaw5.MatrixRows", spec := "matrixRows", inPlace := ["math.Float64bits"], unfollowed := true, recurses := true, apart := false, narrowed := true }
def MatrixRowsUptoSaid : Prop := matrixRowsUptoRow.holds Try.pinned (OpenSpec.upto matrixRowsSpec)

/-- 'backstitchlaw5.MatrixWhole', WHERE WHAT IT READS IS OF BULK AT MOST 1048576: true; the input reads as it did. -/
def matrixWholeUptoRow : OpenClaim := { program := "ytkcgiolledmbnaa", sum := "1380e4938edf9b8ffb900e668d9e4adfa10c637711d99242d6a3158471ad8cfe", func := "backstitch/backstitchlaw5.MatrixWhole", spec := "matrixWhole", unfollowed := true, recurses := true, apart := false, narrowed := true }
def MatrixWholeUptoSaid : Prop := matrixWholeUptoRow.holds Try.pinned (OpenSpec.upto matrixWholeSpec)

/-- 'backstitchlaw5.MatrixSums', WHERE WHAT IT READS IS OF BULK AT MOST 1048576: true; the input reads as it did. -/
def matrixSumsUptoRow : OpenClaim := { program := "ytkcgiolledmbnaa", sum := "1380e4938edf9b8ffb900e668d9e4adfa10c637711d99242d6a3158471ad8cfe", func := "backstitch/backstitchlaw5.MatrixSums", spec := "matrixSums", inPlace := ["math.Float64bits"], unfollowed := true, recurses := true, apart := false, narrowed := true }
def MatrixSumsUptoSaid : Prop := matrixSumsUptoRow.holds Try.pinned (OpenSpec.upto matrixSumsSpec)

/-- 'backstitchlaw5.MatrixOne', WHERE WHAT IT READS IS OF BULK AT MOST 1048576: true; the input reads as it did. -/
def matrixOneUptoRow : OpenClaim := { program := "ytkcgiolledmbnaa", sum := "1380e4938edf9b8ffb900e668d9e4adfa10c637711d99242d6a3158471ad8cfe", func := "backstitch/backstitchlaw5.MatrixOne", spec := "matrixOne", inPlace := ["math.Float64bits", "math.Float64frombits"], unfollowed := true, recurses := true, apart := false, narrowed := true }
def MatrixOneUptoSaid : Prop := matrixOneUptoRow.holds Try.pinned (OpenSpec.upto matrixOneSpec)

/-- 'backstitchlaw5.MatrixMuls', WHERE WHAT IT READS IS OF BULK AT MOST 1048576: true; the input reads as it did. -/
def matrixMulsUptoRow : OpenClaim := { program := "ytkcgiolledmbnaa", sum := "1380e4938edf9b8ffb900e668d9e4adfa10c637711d99242d6a3158471ad8cfe", func := "backstitch/backstitchlaw5.MatrixMuls", spec := "matrixMuls", inPlace := ["math.Float64bits"], unfollowed := true, recurses := true, apart := false, narrowed := true }
def MatrixMulsUptoSaid : Prop := matrixMulsUptoRow.holds Try.pinned (OpenSpec.upto matrixMulsSpec)

/-- 'backstitchlaw5.MatrixKnown', WHERE WHAT IT READS IS OF BULK AT MOST 1048576: true; the input reads as it did. -/
def matrixKnownUptoRow : OpenClaim := { program := "ytkcgiolledmbnaa", sum := "1380e4938edf9b8ffb900e668d9e4adfa10c637711d99242d6a3158471ad8cfe", func := "backstitch/backstitchlaw5.MatrixKnown", spec := "matrixKnown", inPlace := ["math.Float64bits"], unfollowed := true, recurses := true, apart := false, narrowed := true }
def MatrixKnownUptoSaid : Prop := matrixKnownUptoRow.holds Try.pinned (OpenSpec.upto matrixKnownSpec)

end Rows
end Go.Proofs.Ytkcgiolledmbnaa
