/-
  No cell of these rows narrows 'for every input' (looked for: loops, veiled, ifaces, maps, wideKeys, modest, calm, conditions, laid).
  DERIVED. THE GIVEN ROWS OF THIS SEAT. 5 by the template 'for every input the law returns true; each argument reads behind the call as it read before'; 0 by the template 'total and deterministic' (their statements: YtionghonhnedgaaGreatTotals.lean).
  GIVEN WITH THE SEED: the statements are not yours to turn. If you find one false, say at which input.
  Laid BY PROGRAM, IN A SANDBOX (cutbox-rows.mjs): the forced cells as the released guide's own fill.sh prints them over the translation f59579eb05ca13ab… (all of the seat's roots in one cut). By AI agents, Wed Nov 11 2026. No macro, syntax, notation, axiom, sorry.
-/
import Derived.Test.YtionghonhnedgaaGreatChecked
import GoSem.Claim
import GoSem.ClaimJoined
import GoSem.ClaimMapViews
import Derived.JoinedTies
import Derived.KernelRfl
namespace Go.Proofs.YtionghonhnedgaaGreat
/- THE CELL 'sum', in the pinned program and in every row, IS THE sha256 OF THE DUMP (.gsa) THAT YtionghonhnedgaaGreatProg.lean LOADS. Nothing in Lean hashes anything: it is a label: what it is worth is what the hold of that sum in a sandbox is worth. -/
noncomputable def Tryz.pinned : Pinned := { name := "ytionghonhnedgaagreat", sum := "f59579eb05ca13ab4c7e9673cdf6f29b25eec8b1042bb5ee893e87c8f69ee423", checked := Tryz.checked }
namespace Rows
def none {H : Type} : Left H := { results := [], args := [] }

/-- 'recordlinklaw32.ReviewExact': WHATEVER THE INPUT: true; the input reads as it did. -/
def reviewExactSpec : ChangeSpec := { name := "reviewExact", fn := fun _ => fun
  | [d1, d2, d3, d4, d5, d6, d7, d8] => { results := [.lit (.bool true)], args := [d1, d2, d3, d4, d5, d6, d7, d8] }
  | _ => none }
def reviewExactRow : OpenClaim := { program := "ytionghonhnedgaagreat", sum := "f59579eb05ca13ab4c7e9673cdf6f29b25eec8b1042bb5ee893e87c8f69ee423", func := "recordlink/recordlinklaw32.ReviewExact", spec := "reviewExact", inPlace := ["slices.overlaps[recordlink/api.Decision]"], unfollowed := true, recurses := true, apart := false }
def ReviewExactSaid : Prop := reviewExactRow.holds Tryz.pinned (OpenSpec.ofChange reviewExactSpec)

/-- ITS FALSE NEIGHBOUR: 'it returns false'. Refute it at one input. -/
def reviewExactWrong : ChangeSpec := { name := "reviewExact", fn := fun _ => fun
  | [d1, d2, d3, d4, d5, d6, d7, d8] => { results := [.lit (.bool false)], args := [d1, d2, d3, d4, d5, d6, d7, d8] }
  | _ => none }
def ReviewExactWrongFalsely : Prop := reviewExactRow.holds Tryz.pinned (OpenSpec.ofChange reviewExactWrong)

/-- 'recordlinklaw32.ReviewBudget': WHATEVER THE INPUT: true; the input reads as it did. -/
def reviewBudgetSpec : ChangeSpec := { name := "reviewBudget", fn := fun _ => fun
  | [d] => { results := [.lit (.bool true)], args := [d] }
  | _ => none }
def reviewBudgetRow : OpenClaim := { program := "ytionghonhnedgaagreat", sum := "f59579eb05ca13ab4c7e9673cdf6f29b25eec8b1042bb5ee893e87c8f69ee423", func := "recordlink/recordlinklaw32.ReviewBudget", spec := "reviewBudget", inPlace := ["slices.overlaps[recordlink/api.Decision]"], unfollowed := true, recurses := true, apart := false }
def ReviewBudgetSaid : Prop := reviewBudgetRow.holds Tryz.pinned (OpenSpec.ofChange reviewBudgetSpec)

/-- ITS FALSE NEIGHBOUR: 'it returns false'. Refute it at one input. -/
def reviewBudgetWrong : ChangeSpec := { name := "reviewBudget", fn := fun _ => fun
  | [d] => { results := [.lit (.bool false)], args := [d] }
  | _ => none }
def ReviewBudgetWrongFalsely : Prop := reviewBudgetRow.holds Tryz.pinned (OpenSpec.ofChange reviewBudgetWrong)

/-- 'recordlinklaw32.ReviewFewest': WHATEVER THE INPUT: true; the input reads as it did. -/
def reviewFewestSpec : ChangeSpec := { name := "reviewFewest", fn := fun _ => fun
  | [d] => { results := [.lit (.bool true)], args := [d] }
  | _ => none }
def reviewFewestRow : OpenClaim := { program := "ytionghonhnedgaagreat", sum := "f59579eb05ca13ab4c7e9673cdf6f29b25eec8b1042bb5ee893e87c8f69ee423", func := "recordlink/recordlinklaw32.ReviewFewest", spec := "reviewFewest", inPlace := ["slices.overlaps[recordlink/api.Decision]"], unfollowed := true, recurses := true, apart := false }
def ReviewFewestSaid : Prop := reviewFewestRow.holds Tryz.pinned (OpenSpec.ofChange reviewFewestSpec)

/-- ITS FALSE NEIGHBOUR: 'it returns false'. Refute it at one input. -/
def reviewFewestWrong : ChangeSpec := { name := "reviewFewest", fn := fun _ => fun
  | [d] => { results := [.lit (.bool false)], args := [d] }
  | _ => none }
def ReviewFewestWrongFalsely : Prop := reviewFewestRow.holds Tryz.pinned (OpenSpec.ofChange reviewFewestWrong)

/-- 'recordlinklaw32.ReviewOnce': WHATEVER THE INPUT: true; the input reads as it did. -/
def reviewOnceSpec : ChangeSpec := { name := "reviewOnce", fn := fun _ => fun
  | [d] => { results := [.lit (.bool true)], args := [d] }
  | _ => none }
def reviewOnceRow : OpenClaim := { program := "ytionghonhnedgaagreat", sum := "f59579eb05ca13ab4c7e9673cdf6f29b25eec8b1042bb5ee893e87c8f69ee423", func := "recordlink/recordlinklaw32.ReviewOnce", spec := "reviewOnce", inPlace := ["slices.overlaps[recordlink/api.Decision]"], unfollowed := true, recurses := true, apart := false }
def ReviewOnceSaid : Prop := reviewOnceRow.holds Tryz.pinned (OpenSpec.ofChange reviewOnceSpec)

/-- ITS FALSE NEIGHBOUR: 'it returns false'. Refute it at one input. -/
def reviewOnceWrong : ChangeSpec := { name := "reviewOnce", fn := fun _ => fun
  | [d] => { results := [.lit (.bool false)], args := [d] }
  | _ => none }
def ReviewOnceWrongFalsely : Prop := reviewOnceRow.holds Tryz.pinned (OpenSpec.ofChange reviewOnceWrong)

/-- 'recordlinklaw32.ReviewHigher': WHATEVER THE INPUT: true; the input reads as it did. -/
def reviewHigherSpec : ChangeSpec := { name := "reviewHigher", fn := fun _ => fun
  | [d1, d2] => { results := [.lit (.bool true)], args := [d1, d2] }
  | _ => none }
def reviewHigherRow : OpenClaim := { program := "ytionghonhnedgaagreat", sum := "f59579eb05ca13ab4c7e9673cdf6f29b25eec8b1042bb5ee893e87c8f69ee423", func := "recordlink/recordlinklaw32.ReviewHigher", spec := "reviewHigher", inPlace := ["slices.overlaps[recordlink/api.Decision]"], unfollowed := true, recurses := true, apart := false }
def ReviewHigherSaid : Prop := reviewHigherRow.holds Tryz.pinned (OpenSpec.ofChange reviewHigherSpec)

/-- ITS FALSE NEIGHBOUR: 'it returns false'. Refute it at one input. -/
def reviewHigherWrong : ChangeSpec := { name := "reviewHigher", fn := fun _ => fun
  | [d1, d2] => { results := [.lit (.bool false)], args := [d1, d2] }
  | _ => none }
def ReviewHigherWrongFalsely : Prop := reviewHigherRow.holds Tryz.pinned (OpenSpec.ofChange reviewHigherWrong)

/- THE SECOND FORM. 'bulk': how many values and letters a reading holds, each counted each time it is reached (what is shared counts as often as it is met; a slice's spare places count too). A statement '..UptoSaid' is the law's where the arguments, and the package variables that the reading takes, are together of bulk at most 1048576: NARROWER than '..Said'. Prove '..Said' where nothing that the law and all that it calls make is longer than what came in: it says more and counts as full. Else prove '..UptoSaid'. A law counts once. -/
mutual
def uptoBulk {H : Type} : DataW H → Nat
  | .lit (.string bytes) => bytes.length + 1
  | .lit _ => 1
  | .nil => 1
  | .ptr d => uptoBulk d + 1
  | .slice elems spare => uptoBulkAll elems + uptoBulkAll spare + 1
  | .agg parts => uptoBulkAll parts + 1
  | .iface _ d => uptoBulk d + 1
  | .map entries => uptoBulkEntries entries + 1
  | .held _ => 1
def uptoBulkAll {H : Type} : List (DataW H) → Nat
  | [] => 0
  | d :: r => uptoBulk d + uptoBulkAll r
def uptoBulkEntries {H : Type} : List (Lit × DataW H) → Nat
  | [] => 0
  | x :: r => uptoBulkEntry x + uptoBulkEntries r
def uptoBulkEntry {H : Type} : Lit × DataW H → Nat
  | (.string bytes, d) => bytes.length + uptoBulk d + 1
  | (_, d) => uptoBulk d + 1
 end
def uptoSmall : (H : Type) → List (DataW H) → Bool := fun _ ds => decide (uptoBulkAll ds ≤ 1048576)
def OpenSpec.upto (s : _root_.Go.ChangeSpec) : _root_.Go.OpenSpec := { _root_.Go.OpenSpec.ofChange s with cond := some uptoSmall }

/-- 'recordlinklaw32.ReviewExact', WHERE WHAT IT READS IS OF BULK AT MOST 1048576: true; the input reads as it did. -/
def reviewExactUptoRow : OpenClaim := { program := "ytionghonhnedgaagreat", sum := "f59579eb05ca13ab4c7e9673cdf6f29b25eec8b1042bb5ee893e87c8f69ee423", func := "recordlink/recordlinklaw32.ReviewExact", spec := "reviewExact", inPlace := ["slices.overlaps[recordlink/api.Decision]"], unfollowed := true, recurses := true, apart := false, narrowed := true }
def ReviewExactUptoSaid : Prop := reviewExactUptoRow.holds Tryz.pinned (OpenSpec.upto reviewExactSpec)

/-- 'recordlinklaw32.ReviewBudget', WHERE WHAT IT READS IS OF BULK AT MOST 1048576: true; the input reads as it did. -/
def reviewBudgetUptoRow : OpenClaim := { program := "ytionghonhnedgaagreat", sum := "f59579eb05ca13ab4c7e9673cdf6f29b25eec8b1042bb5ee893e87c8f69ee423", func := "recordlink/recordlinklaw32.ReviewBudget", spec := "reviewBudget", inPlace := ["slices.overlaps[recordlink/api.Decision]"], unfollowed := true, recurses := true, apart := false, narrowed := true }
def ReviewBudgetUptoSaid : Prop := reviewBudgetUptoRow.holds Tryz.pinned (OpenSpec.upto reviewBudgetSpec)

/-- 'recordlinklaw32.ReviewFewest', WHERE WHAT IT READS IS OF BULK AT MOST 1048576: true; the input reads as it did. -/
def reviewFewestUptoRow : OpenClaim := { program := "ytionghonhnedgaagreat", sum := "f59579eb05ca13ab4c7e9673cdf6f29b25eec8b1042bb5ee893e87c8f69ee423", func := "recordlink/recordlinklaw32.ReviewFewest", spec := "reviewFewest", inPlace := ["slices.overlaps[recordlink/api.Decision]"], unfollowed := true, recurses := true, apart := false, narrowed := true }
def ReviewFewestUptoSaid : Prop := reviewFewestUptoRow.holds Tryz.pinned (OpenSpec.upto reviewFewestSpec)

/-- 'recordlinklaw32.ReviewOnce', WHERE WHAT IT READS IS OF BULK AT MOST 1048576: true; the input reads as it did. -/
def reviewOnceUptoRow : OpenClaim := { program := "ytionghonhnedgaagreat", sum := "f59579eb05ca13ab4c7e9673cdf6f29b25eec8b1042bb5ee893e87c8f69ee423", func := "recordlink/recordlinklaw32.ReviewOnce", spec := "reviewOnce", inPlace := ["slices.overlaps[recordlink/api.Decision]"], unfollowed := true, recurses := true, apart := false, narrowed := true }
def ReviewOnceUptoSaid : Prop := reviewOnceUptoRow.holds Tryz.pinned (OpenSpec.upto reviewOnceSpec)

/-- 'recordlinklaw32.ReviewHigher', WHERE WHAT IT READS IS OF BULK AT MOST 1048576: true; the input reads as it did. -/
def reviewHigherUptoRow : OpenClaim := { program := "ytionghonhnedgaagreat", sum := "f59579eb05ca13ab4c7e9673cdf6f29b25eec8b1042bb5ee893e87c8f69ee423", func := "recordlink/recordlinklaw32.ReviewHigher", spec := "reviewHigher", inPlace := ["slices.overlaps[recordlink/api.Decision]"], unfollowed := true, recurses := true, apart := false, narrowed := true }
def ReviewHigherUptoSaid : Prop := reviewHigherUptoRow.holds Tryz.pinned (OpenSpec.upto reviewHigherSpec)

end Rows
end Go.Proofs.YtionghonhnedgaaGreat
