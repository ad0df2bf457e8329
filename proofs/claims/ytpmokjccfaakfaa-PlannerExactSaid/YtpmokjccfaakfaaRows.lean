/-
  No cell of these rows narrows 'for every input' (looked for: loops, veiled, ifaces, maps, wideKeys, modest, calm, conditions, laid).
  DERIVED. THE GIVEN ROWS OF THIS SEAT. 6 by the template 'for every input the law returns true; each argument reads behind the call as it read before'; 0 by the template 'total and deterministic' (their statements: YtpmokjccfaakfaaTotals.lean).
  GIVEN WITH THE SEED: the statements are not yours to turn. If you find one false, say at which input.
  Laid BY PROGRAM, IN A SANDBOX (cutbox-rows.mjs): the forced cells as the released guide's own fill.sh prints them over the translation 350fdbf68ea55614… (all of the seat's roots in one cut). By AI agents, Wed Nov 11 2026. No macro, syntax, notation, axiom, sorry.
-/
import Derived.Test.YtpmokjccfaakfaaChecked
import GoSem.Claim
import GoSem.ClaimJoined
import GoSem.ClaimMapViews
import Derived.JoinedTies
import Derived.KernelRfl
namespace Go.Proofs.Ytpmokjccfaakfaa
/- THE CELL 'sum', in the pinned program and in every row, IS THE sha256 OF THE DUMP (.gsa) THAT YtpmokjccfaakfaaProg.lean LOADS. Nothing in Lean hashes anything: it is a label: what it is worth is what the hold of that sum in a sandbox is worth. -/
noncomputable def Try.pinned : Pinned := { name := "ytpmokjccfaakfaa", sum := "350fdbf68ea55614ae4502044dfdfa5eaaca257afc7f5268be99334d5b3aeaaa", checked := Try.checked }
namespace Rows
def none {H : Type} : Left H := { results := [], args := [] }

/-- 'recordlinklaw22.PlannerExact': WHATEVER THE INPUT: true; the input reads as it did. -/
def plannerExactSpec : ChangeSpec := { name := "plannerExact", fn := fun _ => fun
  | [d1, d2, d3, d4, d5, d6] => { results := [.lit (.bool true)], args := [d1, d2, d3, d4, d5, d6] }
  | _ => none }
def plannerExactRow : OpenClaim := { program := "ytpmokjccfaakfaa", sum := "350fdbf68ea55614ae4502044dfdfa5eaaca257afc7f5268be99334d5b3aeaaa", func := "recordlink/recordlinklaw22.PlannerExact", spec := "plannerExact", unfollowed := true, recurses := true, apart := false }
def PlannerExactSaid : Prop := plannerExactRow.holds Try.pinned (OpenSpec.ofChange plannerExactSpec)

/-- ITS FALSE NEIGHBOUR: 'it returns false'. Refute it at one input. -/
def plannerExactWrong : ChangeSpec := { name := "plannerExact", fn := fun _ => fun
  | [d1, d2, d3, d4, d5, d6] => { results := [.lit (.bool false)], args := [d1, d2, d3, d4, d5, d6] }
  | _ => none }
def PlannerExactWrongFalsely : Prop := plannerExactRow.holds Try.pinned (OpenSpec.ofChange plannerExactWrong)

/-- 'recordlinklaw22.PlannerGrows': WHATEVER THE INPUT: true; the input reads as it did. -/
def plannerGrowsSpec : ChangeSpec := { name := "plannerGrows", fn := fun _ => fun
  | [d] => { results := [.lit (.bool true)], args := [d] }
  | _ => none }
def plannerGrowsRow : OpenClaim := { program := "ytpmokjccfaakfaa", sum := "350fdbf68ea55614ae4502044dfdfa5eaaca257afc7f5268be99334d5b3aeaaa", func := "recordlink/recordlinklaw22.PlannerGrows", spec := "plannerGrows", unfollowed := true, recurses := true, apart := false }
def PlannerGrowsSaid : Prop := plannerGrowsRow.holds Try.pinned (OpenSpec.ofChange plannerGrowsSpec)

/-- ITS FALSE NEIGHBOUR: 'it returns false'. Refute it at one input. -/
def plannerGrowsWrong : ChangeSpec := { name := "plannerGrows", fn := fun _ => fun
  | [d] => { results := [.lit (.bool false)], args := [d] }
  | _ => none }
def PlannerGrowsWrongFalsely : Prop := plannerGrowsRow.holds Try.pinned (OpenSpec.ofChange plannerGrowsWrong)

/-- 'recordlinklaw22.PlannerBest': WHATEVER THE INPUT: true; the input reads as it did. -/
def plannerBestSpec : ChangeSpec := { name := "plannerBest", fn := fun _ => fun
  | [d] => { results := [.lit (.bool true)], args := [d] }
  | _ => none }
def plannerBestRow : OpenClaim := { program := "ytpmokjccfaakfaa", sum := "350fdbf68ea55614ae4502044dfdfa5eaaca257afc7f5268be99334d5b3aeaaa", func := "recordlink/recordlinklaw22.PlannerBest", spec := "plannerBest", unfollowed := true, recurses := true, apart := false }
def PlannerBestSaid : Prop := plannerBestRow.holds Try.pinned (OpenSpec.ofChange plannerBestSpec)

/-- ITS FALSE NEIGHBOUR: 'it returns false'. Refute it at one input. -/
def plannerBestWrong : ChangeSpec := { name := "plannerBest", fn := fun _ => fun
  | [d] => { results := [.lit (.bool false)], args := [d] }
  | _ => none }
def PlannerBestWrongFalsely : Prop := plannerBestRow.holds Try.pinned (OpenSpec.ofChange plannerBestWrong)

/-- 'recordlinklaw22.PlannerNever': WHATEVER THE INPUT: true; the input reads as it did. -/
def plannerNeverSpec : ChangeSpec := { name := "plannerNever", fn := fun _ => fun
  | [d] => { results := [.lit (.bool true)], args := [d] }
  | _ => none }
def plannerNeverRow : OpenClaim := { program := "ytpmokjccfaakfaa", sum := "350fdbf68ea55614ae4502044dfdfa5eaaca257afc7f5268be99334d5b3aeaaa", func := "recordlink/recordlinklaw22.PlannerNever", spec := "plannerNever", unfollowed := true, recurses := true, apart := false }
def PlannerNeverSaid : Prop := plannerNeverRow.holds Try.pinned (OpenSpec.ofChange plannerNeverSpec)

/-- ITS FALSE NEIGHBOUR: 'it returns false'. Refute it at one input. -/
def plannerNeverWrong : ChangeSpec := { name := "plannerNever", fn := fun _ => fun
  | [d] => { results := [.lit (.bool false)], args := [d] }
  | _ => none }
def PlannerNeverWrongFalsely : Prop := plannerNeverRow.holds Try.pinned (OpenSpec.ofChange plannerNeverWrong)

/-- 'recordlinklaw22.PlannerApart': WHATEVER THE INPUT: true; the input reads as it did. -/
def plannerApartSpec : ChangeSpec := { name := "plannerApart", fn := fun _ => fun
  | [d] => { results := [.lit (.bool true)], args := [d] }
  | _ => none }
def plannerApartRow : OpenClaim := { program := "ytpmokjccfaakfaa", sum := "350fdbf68ea55614ae4502044dfdfa5eaaca257afc7f5268be99334d5b3aeaaa", func := "recordlink/recordlinklaw22.PlannerApart", spec := "plannerApart", unfollowed := true, recurses := true, apart := false }
def PlannerApartSaid : Prop := plannerApartRow.holds Try.pinned (OpenSpec.ofChange plannerApartSpec)

/-- ITS FALSE NEIGHBOUR: 'it returns false'. Refute it at one input. -/
def plannerApartWrong : ChangeSpec := { name := "plannerApart", fn := fun _ => fun
  | [d] => { results := [.lit (.bool false)], args := [d] }
  | _ => none }
def PlannerApartWrongFalsely : Prop := plannerApartRow.holds Try.pinned (OpenSpec.ofChange plannerApartWrong)

/-- 'recordlinklaw22.PlannerOrder': WHATEVER THE INPUT: true; the input reads as it did. -/
def plannerOrderSpec : ChangeSpec := { name := "plannerOrder", fn := fun _ => fun
  | [d] => { results := [.lit (.bool true)], args := [d] }
  | _ => none }
def plannerOrderRow : OpenClaim := { program := "ytpmokjccfaakfaa", sum := "350fdbf68ea55614ae4502044dfdfa5eaaca257afc7f5268be99334d5b3aeaaa", func := "recordlink/recordlinklaw22.PlannerOrder", spec := "plannerOrder", unfollowed := true, recurses := true, apart := false }
def PlannerOrderSaid : Prop := plannerOrderRow.holds Try.pinned (OpenSpec.ofChange plannerOrderSpec)

/-- ITS FALSE NEIGHBOUR: 'it returns false'. Refute it at one input. -/
def plannerOrderWrong : ChangeSpec := { name := "plannerOrder", fn := fun _ => fun
  | [d] => { results := [.lit (.bool false)], args := [d] }
  | _ => none }
def PlannerOrderWrongFalsely : Prop := plannerOrderRow.holds Try.pinned (OpenSpec.ofChange plannerOrderWrong)

/- THE SECOND FORM. 'bulk': how many values and letters a reading holds, each counted each time it is reached (what is shared counts as often as it is met; a slice's spare places count too). A statement '..UptoSaid' is the law's where the arguments, and the package variables that the reading takes, are together of bulk at most 1048576: NARROWER than '..Said'. Prove '..Said' where nothing that the law and all that it calls make is longer than what came in: it says more and counts as full. Else prove '..UptoSaid'. A law counts once. -/
mutual
def uptoBulk {H : Type} : DataW H → Nat
  | .lit (.string bytes) => bytes.length + 1
  | .lit _ => 1
  | .nil => 1
  | .ptr d => uptoBulk d + 1
  | .slice elems spare => uptoBulkAll elems + uptoBulkAll spare + 1
  | .agg parts => uptoBulkAll parts + 1
  | .iface _ d => uptoBulk d + 1
  | .map entries => uptoBulkEntries entries + 1
  | .held _ => 1
def uptoBulkAll {H : Type} : List (DataW H) → Nat
  | [] => 0
  | d :: r => uptoBulk d + uptoBulkAll r
def uptoBulkEntries {H : Type} : List (Lit × DataW H) → Nat
  | [] => 0
  | x :: r => uptoBulkEntry x + uptoBulkEntries r
def uptoBulkEntry {H : Type} : Lit × DataW H → Nat
  | (.string bytes, d) => bytes.length + uptoBulk d + 1
  | (_, d) => uptoBulk d + 1
 end
def uptoSmall : (H : Type) → List (DataW H) → Bool := fun _ ds => decide (uptoBulkAll ds ≤ 1048576)
def OpenSpec.upto (s : _root_.Go.ChangeSpec) : _root_.Go.OpenSpec := { _root_.Go.OpenSpec.ofChange s with cond := some uptoSmall }

/-- 'recordlinklaw22.PlannerExact', WHERE WHAT IT READS IS OF BULK AT MOST 1048576: true; the input reads as it did. -/
def plannerExactUptoRow : OpenClaim := { program := "ytpmokjccfaakfaa", sum := "350fdbf68ea55614ae4502044dfdfa5eaaca257afc7f5268be99334d5b3aeaaa", func := "recordlink/recordlinklaw22.PlannerExact", spec := "plannerExact", unfollowed := true, recurses := true, apart := false, narrowed := true }
def PlannerExactUptoSaid : Prop := plannerExactUptoRow.holds Try.pinned (OpenSpec.upto plannerExactSpec)

/-- 'recordlinklaw22.PlannerGrows', WHERE WHAT IT READS IS OF BULK AT MOST 1048576: true; the input reads as it did. -/
def plannerGrowsUptoRow : OpenClaim := { program := "ytpmokjccfaakfaa", sum := "350fdbf68ea55614ae4502044dfdfa5eaaca257afc7f5268be99334d5b3aeaaa", func := "recordlink/recordlinklaw22.PlannerGrows", spec := "plannerGrows", unfollowed := true, recurses := true, apart := false, narrowed := true }
def PlannerGrowsUptoSaid : Prop := plannerGrowsUptoRow.holds Try.pinned (OpenSpec.upto plannerGrowsSpec)

/-- 'recordlinklaw22.PlannerBest', WHERE WHAT IT READS IS OF BULK AT MOST 1048576: true; the input reads as it did. -/
def plannerBestUptoRow : OpenClaim := { program := "ytpmokjccfaakfaa", sum := "350fdbf68ea55614ae4502044dfdfa5eaaca257afc7f5268be99334d5b3aeaaa", func := "recordlink/recordlinklaw22.PlannerBest", spec := "plannerBest", unfollowed := true, recurses := true, apart := false, narrowed := true }
def PlannerBestUptoSaid : Prop := plannerBestUptoRow.holds Try.pinned (OpenSpec.upto plannerBestSpec)

/-- 'recordlinklaw22.PlannerNever', WHERE WHAT IT READS IS OF BULK AT MOST 1048576: true; the input reads as it did. -/
def plannerNeverUptoRow : OpenClaim := { program := "ytpmokjccfaakfaa", sum := "350fdbf68ea55614ae4502044dfdfa5eaaca257afc7f5268be99334d5b3aeaaa", func := "recordlink/recordlinklaw22.PlannerNever", spec := "plannerNever", unfollowed := true, recurses := true, apart := false, narrowed := true }
def PlannerNeverUptoSaid : Prop := plannerNeverUptoRow.holds Try.pinned (OpenSpec.upto plannerNeverSpec)

/-- 'recordlinklaw22.PlannerApart', WHERE WHAT IT READS IS OF BULK AT MOST 1048576: true; the input reads as it did. -/
def plannerApartUptoRow : OpenClaim := { program := "ytpmokjccfaakfaa", sum := "350fdbf68ea55614ae4502044dfdfa5eaaca257afc7f5268be99334d5b3aeaaa", func := "recordlink/recordlinklaw22.PlannerApart", spec := "plannerApart", unfollowed := true, recurses := true, apart := false, narrowed := true }
def PlannerApartUptoSaid : Prop := plannerApartUptoRow.holds Try.pinned (OpenSpec.upto plannerApartSpec)

/-- 'recordlinklaw22.PlannerOrder', WHERE WHAT IT READS IS OF BULK AT MOST 1048576: true; the input reads as it did. -/
def plannerOrderUptoRow : OpenClaim := { program := "ytpmokjccfaakfaa", sum := "350fdbf68ea55614ae4502044dfdfa5eaaca257afc7f5268be99334d5b3aeaaa", func := "recordlink/recordlinklaw22.PlannerOrder", spec := "plannerOrder", unfollowed := true, recurses := true, apart := false, narrowed := true }
def PlannerOrderUptoSaid : Prop := plannerOrderUptoRow.holds Try.pinned (OpenSpec.upto plannerOrderSpec)

end Rows
end Go.Proofs.Ytpmokjccfaakfaa
