/-
  No cell of these rows narrows 'for every input' (looked for: loops, veiled, ifaces, maps, wideKeys, modest, calm, conditions, laid).
  DERIVED. THE GIVEN ROWS OF THIS SEAT. 6 by the template 'for every input the law returns true; each argument reads behind the call as it read before'; 0 by the template 'total and deterministic' (their statements: YteaoijahdinciaaTotals.lean).
  GIVEN WITH THE SEED: the statements are not yours to turn. If you find one false, say at which input.
  Laid BY PROGRAM, IN A SANDBOX (cutbox-rows.mjs): the forced cells as the released guide's own fill.sh prints them over the translation 19220cdb1abe9cd1… (all of the seat's roots in one cut). By AI agents, Wed Nov 11 2026. No macro, syntax, notation, axiom, sorry.
-/
import Derived.Test.YteaoijahdinciaaChecked
import GoSem.Claim
import GoSem.ClaimJoined
import GoSem.ClaimMapViews
import Derived.JoinedTies
import Derived.KernelRfl
namespace Go.Proofs.Yteaoijahdinciaa
/- THE CELL 'sum', in the pinned program and in every row, IS THE sha256 OF THE DUMP (.gsa) THAT YteaoijahdinciaaProg.lean LOADS. Nothing in Lean hashes anything: it is a label: what it is worth is what the hold of that sum in a sandbox is worth. -/
noncomputable def Try.pinned : Pinned := { name := "yteaoijahdinciaa", sum := "19220cdb1abe9cd1b86c252e461d727aa2b4f19cd6e2b5ce865f306b9cd78729", checked := Try.checked }
namespace Rows
def none {H : Type} : Left H := { results := [], args := [] }

/-- 'backstitchlaw19.ShelfZeros': WHATEVER THE INPUT: true; the input reads as it did. -/
def shelfZerosSpec : ChangeSpec := { name := "shelfZeros", fn := fun _ => fun
  | [d1, d2] => { results := [.lit (.bool true)], args := [d1, d2] }
  | _ => none }
def shelfZerosRow : OpenClaim := { program := "yteaoijahdinciaa", sum := "19220cdb1abe9cd1b86c252e461d727aa2b4f19cd6e2b5ce865f306b9cd78729", func := "backstitch/backstitchlaw19.ShelfZeros", spec := "shelfZeros", unfollowed := true, recurses := true, apart := false }
def ShelfZerosSaid : Prop := shelfZerosRow.holds Try.pinned (OpenSpec.ofChange shelfZerosSpec)

/-- ITS FALSE NEIGHBOUR: 'it returns false'. Refute it at one input. -/
def shelfZerosWrong : ChangeSpec := { name := "shelfZeros", fn := fun _ => fun
  | [d1, d2] => { results := [.lit (.bool false)], args := [d1, d2] }
  | _ => none }
def ShelfZerosWrongFalsely : Prop := shelfZerosRow.holds Try.pinned (OpenSpec.ofChange shelfZerosWrong)

/-- 'backstitchlaw19.ShelfHands': WHATEVER THE INPUT: true; the input reads as it did. -/
def shelfHandsSpec : ChangeSpec := { name := "shelfHands", fn := fun _ => fun
  | [d1, d2] => { results := [.lit (.bool true)], args := [d1, d2] }
  | _ => none }
def shelfHandsRow : OpenClaim := { program := "yteaoijahdinciaa", sum := "19220cdb1abe9cd1b86c252e461d727aa2b4f19cd6e2b5ce865f306b9cd78729", func := "backstitch/backstitchlaw19.ShelfHands", spec := "shelfHands", inPlace := ["math.Float64bits"], unfollowed := true, recurses := true, apart := false }
def ShelfHandsSaid : Prop := shelfHandsRow.holds Try.pinned (OpenSpec.ofChange shelfHandsSpec)

/-- ITS FALSE NEIGHBOUR: 'it returns false'. Refute it at one input. -/
def shelfHandsWrong : ChangeSpec := { name := "shelfHands", fn := fun _ => fun
  | [d1, d2] => { results := [.lit (.bool false)], args := [d1, d2] }
  | _ => none }
def ShelfHandsWrongFalsely : Prop := shelfHandsRow.holds Try.pinned (OpenSpec.ofChange shelfHandsWrong)

/-- 'backstitchlaw19.ShelfSums': WHATEVER THE INPUT: true; the input reads as it did. -/
def shelfSumsSpec : ChangeSpec := { name := "shelfSums", fn := fun _ => fun
  | [d] => { results := [.lit (.bool true)], args := [d] }
  | _ => none }
def shelfSumsRow : OpenClaim := { program := "yteaoijahdinciaa", sum := "19220cdb1abe9cd1b86c252e461d727aa2b4f19cd6e2b5ce865f306b9cd78729", func := "backstitch/backstitchlaw19.ShelfSums", spec := "shelfSums", unfollowed := true, recurses := true, apart := false }
def ShelfSumsSaid : Prop := shelfSumsRow.holds Try.pinned (OpenSpec.ofChange shelfSumsSpec)

/-- ITS FALSE NEIGHBOUR: 'it returns false'. Refute it at one input. -/
def shelfSumsWrong : ChangeSpec := { name := "shelfSums", fn := fun _ => fun
  | [d] => { results := [.lit (.bool false)], args := [d] }
  | _ => none }
def ShelfSumsWrongFalsely : Prop := shelfSumsRow.holds Try.pinned (OpenSpec.ofChange shelfSumsWrong)

/-- 'backstitchlaw19.ShelfRefuses': WHATEVER THE INPUT: true; the input reads as it did. -/
def shelfRefusesSpec : ChangeSpec := { name := "shelfRefuses", fn := fun _ => fun
  | [d1, d2, d3] => { results := [.lit (.bool true)], args := [d1, d2, d3] }
  | _ => none }
def shelfRefusesRow : OpenClaim := { program := "yteaoijahdinciaa", sum := "19220cdb1abe9cd1b86c252e461d727aa2b4f19cd6e2b5ce865f306b9cd78729", func := "backstitch/backstitchlaw19.ShelfRefuses", spec := "shelfRefuses", inPlace := ["math.Float64bits"], unfollowed := true, recurses := true, apart := false }
def ShelfRefusesSaid : Prop := shelfRefusesRow.holds Try.pinned (OpenSpec.ofChange shelfRefusesSpec)

/-- ITS FALSE NEIGHBOUR: 'it returns false'. Refute it at one input. -/
def shelfRefusesWrong : ChangeSpec := { name := "shelfRefuses", fn := fun _ => fun
  | [d1, d2, d3] => { results := [.lit (.bool false)], args := [d1, d2, d3] }
  | _ => none }
def ShelfRefusesWrongFalsely : Prop := shelfRefusesRow.holds Try.pinned (OpenSpec.ofChange shelfRefusesWrong)

/-- 'backstitchlaw19.ShelfKnown': WHATEVER THE INPUT: true; the input reads as it did. -/
def shelfKnownSpec : ChangeSpec := { name := "shelfKnown", fn := fun _ => fun
  | [] => { results := [.lit (.bool true)], args := [] }
  | _ => none }
def shelfKnownRow : OpenClaim := { program := "yteaoijahdinciaa", sum := "19220cdb1abe9cd1b86c252e461d727aa2b4f19cd6e2b5ce865f306b9cd78729", func := "backstitch/backstitchlaw19.ShelfKnown", spec := "shelfKnown", inPlace := ["math.Float64bits"], unfollowed := true, recurses := true, apart := false }
def ShelfKnownSaid : Prop := shelfKnownRow.holds Try.pinned (OpenSpec.ofChange shelfKnownSpec)

/-- ITS FALSE NEIGHBOUR: 'it returns false'. Refute it at one input. -/
def shelfKnownWrong : ChangeSpec := { name := "shelfKnown", fn := fun _ => fun
  | [] => { results := [.lit (.bool false)], args := [] }
  | _ => none }
def ShelfKnownWrongFalsely : Prop := shelfKnownRow.holds Try.pinned (OpenSpec.ofChange shelfKnownWrong)

/-- 'backstitchlaw19.ShelfPlays': WHATEVER THE INPUT: true; the input reads as it did. -/
def shelfPlaysSpec : ChangeSpec := { name := "shelfPlays", fn := fun _ => fun
  | [d1, d2] => { results := [.lit (.bool true)], args := [d1, d2] }
  | _ => none }
def shelfPlaysRow : OpenClaim := { program := "yteaoijahdinciaa", sum := "19220cdb1abe9cd1b86c252e461d727aa2b4f19cd6e2b5ce865f306b9cd78729", func := "backstitch/backstitchlaw19.ShelfPlays", spec := "shelfPlays", inPlace := ["math.Float64bits"], unfollowed := true, recurses := true, apart := false }
def ShelfPlaysSaid : Prop := shelfPlaysRow.holds Try.pinned (OpenSpec.ofChange shelfPlaysSpec)

/-- ITS FALSE NEIGHBOUR: 'it returns false'. Refute it at one input. -/
def shelfPlaysWrong : ChangeSpec := { name := "shelfPlays", fn := fun _ => fun
  | [d1, d2] => { results := [.lit (.bool false)], args := [d1, d2] }
  | _ => none }
def ShelfPlaysWrongFalsely : Prop := shelfPlaysRow.holds Try.pinned (OpenSpec.ofChange shelfPlaysWrong)

/- THE SECOND FORM. 'bulk': how many values and letters a reading holds, each counted each time it is reached (what is shared counts as often as it is met; a slice's spare places count too). A statement '..UptoSaid' is the law's where the arguments, and the package variables that the reading takes, are together of bulk at most 1048576: NARROWER than '..Said'. Prove '..Said' where nothing that the law and all that it calls make is longer than what came in: it says more and counts as full. Else prove '..UptoSaid'. A law counts once. -/
mutual
def uptoBulk {H : Type} : DataW H → Nat
  | .lit (.string bytes) => bytes.length + 1
  | .lit _ => 1
  | .nil => 1
  | .ptr d => uptoBulk d + 1
  | .slice elems spare => uptoBulkAll elems + uptoBulkAll spare + 1
  | .agg parts => uptoBulkAll parts + 1
  | .iface _ d => uptoBulk d + 1
  | .map entries => uptoBulkEntries entries + 1
  | .held _ => 1
def uptoBulkAll {H : Type} : List (DataW H) → Nat
  | [] => 0
  | d :: r => uptoBulk d + uptoBulkAll r
def uptoBulkEntries {H : Type} : List (Lit × DataW H) → Nat
  | [] => 0
  | x :: r => uptoBulkEntry x + uptoBulkEntries r
def uptoBulkEntry {H : Type} : Lit × DataW H → Nat
  | (.string bytes, d) => bytes.length + uptoBulk d + 1
  | (_, d) => uptoBulk d + 1
 end
def uptoSmall : (H : Type) → List (DataW H) → Bool := fun _ ds => decide (uptoBulkAll ds ≤ 1048576)
def OpenSpec.upto (s : _root_.Go.ChangeSpec) : _root_.Go.OpenSpec := { _root_.Go.OpenSpec.ofChange s with cond := some uptoSmall }

/-- 'backstitchlaw19.ShelfZeros', WHERE WHAT IT READS IS OF BULK AT MOST 1048576: true; the input reads as it did. -/
def shelfZerosUptoRow : OpenClaim := { program := "yteaoijahdinciaa", sum := "19220cdb1abe9cd1b86c252e461d727aa2b4f19cd6e2b5ce865f306b9cd78729", func := "backstitch/backstitchlaw19.ShelfZeros", spec := "shelfZeros", unfollowed := true, recurses := true, apart := false, narrowed := true }
def ShelfZerosUptoSaid : Prop := shelfZerosUptoRow.holds Try.pinned (OpenSpec.upto shelfZerosSpec)

/-- 'backstitchlaw19.ShelfHands', WHERE WHAT IT READS IS OF BULK AT MOST 1048576: true; the input reads as it did. -/
def shelfHandsUptoRow : OpenClaim := { program := "yteaoijahdinciaa", sum := "19220cdb1abe9cd1b86c252e461d727aa2b4f19cd6e2b5ce865f306b9cd78729", func := "backstitch/backstitchlaw19.ShelfHands", spec := "shelfHands", inPlace := ["math.Float64bits"], unfollowed := true, recurses := true, apart := false, narrowed := true }
def ShelfHandsUptoSaid : Prop := shelfHandsUptoRow.holds Try.pinned (OpenSpec.upto shelfHandsSpec)

/-- 'backstitchlaw19.ShelfSums', WHERE WHAT IT READS IS OF BULK AT MOST 1048576: true; the input reads as it did. -/
def shelfSumsUptoRow : OpenClaim := { program := "yteaoijahdinciaa", sum := "19220cdb1abe9cd1b86c252e461d727aa2b4f19cd6e2b5ce865f306b9cd78729", func := "backstitch/backstitchlaw19.ShelfSums", spec := "shelfSums", unfollowed := true, recurses := true, apart := false, narrowed := true }
def ShelfSumsUptoSaid : Prop := shelfSumsUptoRow.holds Try.pinned (OpenSpec.upto shelfSumsSpec)

/-- 'backstitchlaw19.ShelfRefuses', WHERE WHAT IT READS IS OF BULK AT MOST 1048576: true; the input reads as it did. -/
def shelfRefusesUptoRow : OpenClaim := { program := "yteaoijahdinciaa", sum := "19220cdb1abe9cd1b86c252e461d727aa2b4f19cd6e2b5ce865f306b9cd78729", func := "backstitch/backstitchlaw19.ShelfRefuses", spec := "shelfRefuses", inPlace := ["math.Float64bits"], unfollowed := true, recurses := true, apart := false, narrowed := true }
def ShelfRefusesUptoSaid : Prop := shelfRefusesUptoRow.holds Try.pinned (OpenSpec.upto shelfRefusesSpec)

/-- 'backstitchlaw19.ShelfKnown', WHERE WHAT IT READS IS OF BULK AT MOST 1048576: true; the input reads as it did. -/
def shelfKnownUptoRow : OpenClaim := { program := "yteaoijahdinciaa", sum := "19220cdb1abe9cd1b86c252e461d727aa2b4f19cd6e2b5ce865f306b9cd78729", func := "backstitch/backstitchlaw19.ShelfKnown", spec := "shelfKnown", inPlace := ["math.Float64bits"], unfollowed := true, recurses := true, apart := false, narrowed := true }
def ShelfKnownUptoSaid : Prop := shelfKnownUptoRow.holds Try.pinned (OpenSpec.upto shelfKnownSpec)

/-- 'backstitchlaw19.ShelfPlays', WHERE WHAT IT READS IS OF BULK AT MOST 1048576: true; the input reads as it did. -/
def shelfPlaysUptoRow : OpenClaim := { program := "yteaoijahdinciaa", sum := "19220cdb1abe9cd1b86c252e461d727aa2b4f19cd6e2b5ce865f306b9cd78729", func := "backstitch/backstitchlaw19.ShelfPlays", spec := "shelfPlays", inPlace := ["math.Float64bits"], unfollowed := true, recurses := true, apart := false, narrowed := true }
def ShelfPlaysUptoSaid : Prop := shelfPlaysUptoRow.holds Try.pinned (OpenSpec.upto shelfPlaysSpec)

end Rows
end Go.Proofs.Yteaoijahdinciaa
