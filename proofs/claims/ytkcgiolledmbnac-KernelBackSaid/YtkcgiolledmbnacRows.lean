/-
  No cell of these rows narrows 'for every input' (looked for: loops, veiled, ifaces, maps, wideKeys, modest, calm, conditions, laid).
  DERIVED. THE GIVEN ROWS OF THIS SEAT. 3 by the template 'for every input the law returns true; each argument reads behind the call as it read before'; 0 by the template 'total and deterministic' (their statements: YtkcgiolledmbnacTotals.lean).
  GIVEN WITH THE SEED: the statements are not yours to turn. If you find one false, say at which input.
  Laid BY PROGRAM, IN A SANDBOX (cutbox-rows.mjs): the forced cells as the released guide's own fill.sh prints them over the translation b837a26c191e9da3… (all of the seat's roots in one cut). By AI agents, Wed Nov 11 2026. No macro, syntax, notation, axiom, sorry.
-/
import Derived.Test.YtkcgiolledmbnacChecked
import GoSem.Claim
import GoSem.ClaimJoined
import GoSem.ClaimMapViews
import Derived.JoinedTies
import Derived.KernelRfl
namespace Go.Proofs.Ytkcgiolledmbnac
/- THE CELL 'sum', in the pinned program and in every row, IS THE sha256 OF THE DUMP (.gsa) THAT YtkcgiolledmbnacProg.lean LOADS. Nothing in Lean hashes anything: it is a label: what it is worth is what the hold of that sum in a sandbox is worth. -/
noncomputable def Try.pinned : Pinned := { name := "ytkcgiolledmbnac", sum := "b837a26c191e9da3917a648787c9ea545abe688040bb2762b9aa9f896b7e4ca0", checked := Try.checked }
namespace Rows
def none {H : Type} : Left H := { results := [], args := [] }

/-- 'backstitchlaw3.TensorMaps': WHATEVER THE INPUT: true; the input reads as it did. -/
def tensorMapsSpec : ChangeSpec := { name := "tensorMaps", fn := fun _ => fun
  | [d1, d2] => { results := [.lit (.bool true)], args := [d1, d2] }
  | _ => none }
def tensorMapsRow : OpenClaim := { program := "ytkcgiolledmbnac", sum := "b837a26c191e9da3917a648787c9ea545abe688040bb2762b9aa9f896b7e4ca0", func := "backstitch/backstitchlaw3.TensorMaps", spec := "tensorMaps", inPlace := ["math.Float64bits", "math.Float64frombits", "math.sqrt"], unfollowed := true, recurses := true, apart := false }
def TensorMapsSaid : Prop := tensorMapsRow.holds Try.pinned (OpenSpec.ofChange tensorMapsSpec)

/-- ITS FALSE NEIGHBOUR: 'it returns false'. Refute it at one input. -/
def tensorMapsWrong : ChangeSpec := { name := "tensorMaps", fn := fun _ => fun
  | [d1, d2] => { results := [.lit (.bool false)], args := [d1, d2] }
  | _ => none }
def TensorMapsWrongFalsely : Prop := tensorMapsRow.holds Try.pinned (OpenSpec.ofChange tensorMapsWrong)

/-- 'backstitchlaw4.KernelBack': WHATEVER THE INPUT: true; the input reads as it did. -/
def kernelBackSpec : ChangeSpec := { name := "kernelBack", fn := fun _ => fun
  | [d1, d2, d3] => { results := [.lit (.bool true)], args := [d1, d2, d3] }
  | _ => none }
def kernelBackRow : OpenClaim := { program := "ytkcgiolledmbnac", sum := "b837a26c191e9da3917a648787c9ea545abe688040bb2762b9aa9f896b7e4ca0", func := "backstitch/backstitchlaw4.KernelBack", spec := "kernelBack", unfollowed := true, recurses := true, apart := false }
def KernelBackSaid : Prop := kernelBackRow.holds Try.pinned (OpenSpec.ofChange kernelBackSpec)

/-- ITS FALSE NEIGHBOUR: 'it returns false'. Refute it at one input. -/
def kernelBackWrong : ChangeSpec := { name := "kernelBack", fn := fun _ => fun
  | [d1, d2, d3] => { results := [.lit (.bool false)], args := [d1, d2, d3] }
  | _ => none }
def KernelBackWrongFalsely : Prop := kernelBackRow.holds Try.pinned (OpenSpec.ofChange kernelBackWrong)

/-- 'backstitchlaw4.KernelSpreads': WHATEVER THE INPUT: true; the input reads as it did. -/
def kernelSpreadsSpec : ChangeSpec := { name := "kernelSpreads", fn := fun _ => fun
  | [d1, d2] => { results := [.lit (.bool true)], args := [d1, d2] }
  | _ => none }
def kernelSpreadsRow : OpenClaim := { program := "ytkcgiolledmbnac", sum := "b837a26c191e9da3917a648787c9ea545abe688040bb2762b9aa9f896b7e4ca0", func := "backstitch/backstitchlaw4.KernelSpreads", spec := "kernelSpreads", inPlace := ["math.Float64bits"], unfollowed := true, recurses := true, apart := false }
def KernelSpreadsSaid : Prop := kernelSpreadsRow.holds Try.pinned (OpenSpec.ofChange kernelSpreadsSpec)

/-- ITS FALSE NEIGHBOUR: 'it returns false'. Refute it at one input. -/
def kernelSpreadsWrong : ChangeSpec := { name := "kernelSpreads", fn := fun _ => fun
  | [d1, d2] => { results := [.lit (.bool false)], args := [d1, d2] }
  | _ => none }
def KernelSpreadsWrongFalsely : Prop := kernelSpreadsRow.holds Try.pinned (OpenSpec.ofChange kernelSpreadsWrong)

/- THE SECOND FORM. 'bulk': how many values and letters a reading holds, each counted each time it is reached (what is shared counts as often as it is met; a slice's spare places count too). A statement '..UptoSaid' is the law's where the arguments, and the package variables that the reading takes, are together of bulk at most 1048576: NARROWER than '..Said'. Prove '..Said' where nothing that the law and all that it calls make is longer than what came in: it says more and counts as full. Else prove '..UptoSaid'. A law counts once. -/
mutual
def uptoBulk {H : Type} : DataW H → Nat
  | .lit (.string bytes) => bytes.length + 1
  | .lit _ => 1
  | .nil => 1
  | .ptr d => uptoBulk d + 1
  | .slice elems spare => uptoBulkAll elems + uptoBulkAll spare + 1
  | .agg parts => uptoBulkAll parts + 1
  | .iface _ d => uptoBulk d + 1
  | .map entries => uptoBulkEntries entries + 1
  | .held _ => 1
def uptoBulkAll {H : Type} : List (DataW H) → Nat
  | [] => 0
  | d :: r => uptoBulk d + uptoBulkAll r
def uptoBulkEntries {H : Type} : List (Lit × DataW H) → Nat
  | [] => 0
  | x :: r => uptoBulkEntry x + uptoBulkEntries r
def uptoBulkEntry {H : Type} : Lit × DataW H → Nat
  | (.string bytes, d) => bytes.length + uptoBulk d + 1
  | (_, d) => uptoBulk d + 1
 end
def uptoSmall : (H : Type) → List (DataW H) → Bool := fun _ ds => decide (uptoBulkAll ds ≤ 1048576)
def OpenSpec.upto (s : _root_.Go.ChangeSpec) : _root_.Go.OpenSpec := { _root_.Go.OpenSpec.ofChange s with cond := some uptoSmall }

/-- 'backstitchlaw3.TensorMaps', WHERE WHAT IT READS IS OF BULK AT MOST 1048576: true; the input reads as it did. -/
def tensorMapsUptoRow : OpenClaim := { program := "ytkcgiolledmbnac", sum := "b837a26c191e9da3917a648787c9ea545abe688040bb2762b9aa9f896b7e4ca0", func := "backstitch/backstitchlaw3.TensorMaps", spec := "tensorMaps", inPlace := ["math.Float64bits", "math.Float64frombits", "math.sqrt"], unfollowed := true, recurses := true, apart := false, narrowed := true }
def TensorMapsUptoSaid : Prop := tensorMapsUptoRow.holds Try.pinned (OpenSpec.upto tensorMapsSpec)

/-- 'backstitchlaw4.KernelBack', WHERE WHAT IT READS IS OF BULK AT MOST 1048576: true; the input reads as it did. -/
def kernelBackUptoRow : OpenClaim := { program := "ytkcgiolledmbnac", sum := "b837a26c191e9da3917a648787c9ea545abe688040bb2762b9aa9f896b7e4ca0", func := "backstitch/backstitchlaw4.KernelBack", spec := "kernelBack", unfollowed := true, recurses := true, apart := false, narrowed := true }
def KernelBackUptoSaid : Prop := kernelBackUptoRow.holds Try.pinned (OpenSpec.upto kernelBackSpec)

/-- 'backstitchlaw4.KernelSpreads', WHERE WHAT IT READS IS OF BULK AT MOST 1048576: true; the input reads as it did. -/
def kernelSpreadsUptoRow : OpenClaim := { program := "ytkcgiolledmbnac", sum := "b837a26c191e9da3917a648787c9ea545abe688040bb2762b9aa9f896b7e4ca0", func := "backstitch/backstitchlaw4.KernelSpreads", spec := "kernelSpreads", inPlace := ["math.Float64bits"], unfollowed := true, recurses := true, apart := false, narrowed := true }
def KernelSpreadsUptoSaid : Prop := kernelSpreadsUptoRow.holds Try.pinned (OpenSpec.upto kernelSpreadsSpec)

end Rows
end Go.Proofs.Ytkcgiolledmbnac
