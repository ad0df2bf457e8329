/-
  No cell of these rows narrows 'for every input' (looked for: loops, veiled, ifaces, maps, wideKeys, modest, calm, conditions, laid).
  DERIVED. THE GIVEN ROWS OF THIS SEAT. 5 by the template 'for every input the law returns true; each argument reads behind the call as it read before'; 0 by the template 'total and deterministic' (their statements: YtfmdkdfhnkennaaTotals.lean).
  GIVEN WITH THE SEED: the statements are not yours to turn. If you find one false, say at which input.
  Laid BY PROGRAM, IN A SANDBOX (cutbox-rows.mjs): the forced cells as the released guide's own fill.sh prints them over the translation ee429583f2adcb6b… (all of the seat's roots in one cut). By AI agents, Wed Nov 11 2026. No macro, syntax, notation, axiom, sorry.
-/
import Derived.Test.YtfmdkdfhnkennaaChecked
import GoSem.Claim
import GoSem.ClaimJoined
import GoSem.ClaimMapViews
import Derived.JoinedTies
import Derived.KernelRfl
namespace Go.Proofs.Ytfmdkdfhnkennaa
/- THE CELL 'sum', in the pinned program and in every row, IS THE sha256 OF THE DUMP (.gsa) THAT YtfmdkdfhnkennaaProg.lean LOADS. Nothing in Lean hashes anything: it is a label: what it is worth is what the hold of that sum in a sandbox is worth. -/
noncomputable def Try.pinned : Pinned := { name := "ytfmdkdfhnkennaa", sum := "ee429583f2adcb6b2b05fc3d0b3c76fe3e9f45bdbe7d6d33a8b2a3db30bb43e4", checked := Try.checked }
namespace Rows
def none {H : Type} : Left H := { results := [], args := [] }

/-- 'recordlinklaw30.ComponentExact': WHATEVER THE INPUT: true; the input reads as it did. -/
def componentExactSpec : ChangeSpec := { name := "componentExact", fn := fun _ => fun
  | [d1, d2, d3, d4] => { results := [.lit (.bool true)], args := [d1, d2, d3, d4] }
  | _ => none }
def componentExactRow : OpenClaim := { program := "ytfmdkdfhnkennaa", sum := "ee429583f2adcb6b2b05fc3d0b3c76fe3e9f45bdbe7d6d33a8b2a3db30bb43e4", func := "recordlink/recordlinklaw30.ComponentExact", spec := "componentExact", unfollowed := true, recurses := true, plainKeys := false, apart := false }
def ComponentExactSaid : Prop := componentExactRow.holds Try.pinned (OpenSpec.ofChange componentExactSpec)

/-- ITS FALSE NEIGHBOUR: 'it returns false'. Refute it at one input. -/
def componentExactWrong : ChangeSpec := { name := "componentExact", fn := fun _ => fun
  | [d1, d2, d3, d4] => { results := [.lit (.bool false)], args := [d1, d2, d3, d4] }
  | _ => none }
def ComponentExactWrongFalsely : Prop := componentExactRow.holds Try.pinned (OpenSpec.ofChange componentExactWrong)

/-- 'recordlinklaw30.ComponentWays': WHATEVER THE INPUT: true; the input reads as it did. -/
def componentWaysSpec : ChangeSpec := { name := "componentWays", fn := fun _ => fun
  | [d] => { results := [.lit (.bool true)], args := [d] }
  | _ => none }
def componentWaysRow : OpenClaim := { program := "ytfmdkdfhnkennaa", sum := "ee429583f2adcb6b2b05fc3d0b3c76fe3e9f45bdbe7d6d33a8b2a3db30bb43e4", func := "recordlink/recordlinklaw30.ComponentWays", spec := "componentWays", unfollowed := true, recurses := true, plainKeys := false, apart := false }
def ComponentWaysSaid : Prop := componentWaysRow.holds Try.pinned (OpenSpec.ofChange componentWaysSpec)

/-- ITS FALSE NEIGHBOUR: 'it returns false'. Refute it at one input. -/
def componentWaysWrong : ChangeSpec := { name := "componentWays", fn := fun _ => fun
  | [d] => { results := [.lit (.bool false)], args := [d] }
  | _ => none }
def ComponentWaysWrongFalsely : Prop := componentWaysRow.holds Try.pinned (OpenSpec.ofChange componentWaysWrong)

/-- 'recordlinklaw30.ComponentSplits': WHATEVER THE INPUT: true; the input reads as it did. -/
def componentSplitsSpec : ChangeSpec := { name := "componentSplits", fn := fun _ => fun
  | [d] => { results := [.lit (.bool true)], args := [d] }
  | _ => none }
def componentSplitsRow : OpenClaim := { program := "ytfmdkdfhnkennaa", sum := "ee429583f2adcb6b2b05fc3d0b3c76fe3e9f45bdbe7d6d33a8b2a3db30bb43e4", func := "recordlink/recordlinklaw30.ComponentSplits", spec := "componentSplits", unfollowed := true, recurses := true, plainKeys := false, apart := false }
def ComponentSplitsSaid : Prop := componentSplitsRow.holds Try.pinned (OpenSpec.ofChange componentSplitsSpec)

/-- ITS FALSE NEIGHBOUR: 'it returns false'. Refute it at one input. -/
def componentSplitsWrong : ChangeSpec := { name := "componentSplits", fn := fun _ => fun
  | [d] => { results := [.lit (.bool false)], args := [d] }
  | _ => none }
def ComponentSplitsWrongFalsely : Prop := componentSplitsRow.holds Try.pinned (OpenSpec.ofChange componentSplitsWrong)

/-- 'recordlinklaw30.ComponentJoins': WHATEVER THE INPUT: true; the input reads as it did. -/
def componentJoinsSpec : ChangeSpec := { name := "componentJoins", fn := fun _ => fun
  | [d] => { results := [.lit (.bool true)], args := [d] }
  | _ => none }
def componentJoinsRow : OpenClaim := { program := "ytfmdkdfhnkennaa", sum := "ee429583f2adcb6b2b05fc3d0b3c76fe3e9f45bdbe7d6d33a8b2a3db30bb43e4", func := "recordlink/recordlinklaw30.ComponentJoins", spec := "componentJoins", unfollowed := true, recurses := true, plainKeys := false, apart := false }
def ComponentJoinsSaid : Prop := componentJoinsRow.holds Try.pinned (OpenSpec.ofChange componentJoinsSpec)

/-- ITS FALSE NEIGHBOUR: 'it returns false'. Refute it at one input. -/
def componentJoinsWrong : ChangeSpec := { name := "componentJoins", fn := fun _ => fun
  | [d] => { results := [.lit (.bool false)], args := [d] }
  | _ => none }
def ComponentJoinsWrongFalsely : Prop := componentJoinsRow.holds Try.pinned (OpenSpec.ofChange componentJoinsWrong)

/-- 'recordlinklaw30.ComponentNames': WHATEVER THE INPUT: true; the input reads as it did. -/
def componentNamesSpec : ChangeSpec := { name := "componentNames", fn := fun _ => fun
  | [d1, d2] => { results := [.lit (.bool true)], args := [d1, d2] }
  | _ => none }
def componentNamesRow : OpenClaim := { program := "ytfmdkdfhnkennaa", sum := "ee429583f2adcb6b2b05fc3d0b3c76fe3e9f45bdbe7d6d33a8b2a3db30bb43e4", func := "recordlink/recordlinklaw30.ComponentNames", spec := "componentNames", unfollowed := true, recurses := true, plainKeys := false, apart := false }
def ComponentNamesSaid : Prop := componentNamesRow.holds Try.pinned (OpenSpec.ofChange componentNamesSpec)

/-- ITS FALSE NEIGHBOUR: 'it returns false'. Refute it at one input. -/
def componentNamesWrong : ChangeSpec := { name := "componentNames", fn := fun _ => fun
  | [d1, d2] => { results := [.lit (.bool false)], args := [d1, d2] }
  | _ => none }
def ComponentNamesWrongFalsely : Prop := componentNamesRow.holds Try.pinned (OpenSpec.ofChange componentNamesWrong)

/- THE SECOND FORM. 'bulk': how many values and letters a reading holds, each counted each time it is reached (what is shared counts as often as it is met; a slice's spare places count too). A statement '..UptoSaid' is the law's where the arguments, and the package variables that the reading takes, are together of bulk at most 1048576: NARROWER than '..Said'. Prove '..Said' where nothing that the law and all that it calls make is longer than what came in: it says more and counts as full. Else prove '..UptoSaid'. A law counts once. -/
mutual
def uptoBulk {H : Type} : DataW H → Nat
  | .lit (.string bytes) => bytes.length + 1
  | .lit _ => 1
  | .nil => 1
  | .ptr d => uptoBulk d + 1
  | .slice elems spare => uptoBulkAll elems + uptoBulkAll spare + 1
  | .agg parts => uptoBulkAll parts + 1
  | .iface _ d => uptoBulk d + 1
  | .map entries => uptoBulkEntries entries + 1
  | .held _ => 1
def uptoBulkAll {H : Type} : List (DataW H) → Nat
  | [] => 0
  | d :: r => uptoBulk d + uptoBulkAll r
def uptoBulkEntries {H : Type} : List (Lit × DataW H) → Nat
  | [] => 0
  | x :: r => uptoBulkEntry x + uptoBulkEntries r
def uptoBulkEntry {H : Type} : Lit × DataW H → Nat
  | (.string bytes, d) => bytes.length + uptoBulk d + 1
  | (_, d) => uptoBulk d + 1
 end
def uptoSmall : (H : Type) → List (DataW H) → Bool := fun _ ds => decide (uptoBulkAll ds ≤ 1048576)
def OpenSpec.upto (s : _root_.Go.ChangeSpec) : _root_.Go.OpenSpec := { _root_.Go.OpenSpec.ofChange s with cond := some uptoSmall }

/-- 'recordlinklaw30.ComponentExact', WHERE WHAT IT READS IS OF BULK AT MOST 1048576: true; the input reads as it did. -/
def componentExactUptoRow : OpenClaim := { program := "ytfmdkdfhnkennaa", sum := "ee429583f2adcb6b2b05fc3d0b3c76fe3e9f45bdbe7d6d33a8b2a3db30bb43e4", func := "recordlink/recordlinklaw30.ComponentExact", spec := "componentExact", unfollowed := true, recurses := true, plainKeys := false, apart := false, narrowed := true }
def ComponentExactUptoSaid : Prop := componentExactUptoRow.holds Try.pinned (OpenSpec.upto componentExactSpec)

/-- 'recordlinklaw30.ComponentWays', WHERE WHAT IT READS IS OF BULK AT MOST 1048576: true; the input reads as it did. -/
def componentWaysUptoRow : OpenClaim := { program := "ytfmdkdfhnkennaa", sum := "ee429583f2adcb6b2b05fc3d0b3c76fe3e9f45bdbe7d6d33a8b2a3db30bb43e4", func := "recordlink/recordlinklaw30.ComponentWays", spec := "componentWays", unfollowed := true, recurses := true, plainKeys := false, apart := false, narrowed := true }
def ComponentWaysUptoSaid : Prop := componentWaysUptoRow.holds Try.pinned (OpenSpec.upto componentWaysSpec)

/-- 'recordlinklaw30.ComponentSplits', WHERE WHAT IT READS IS OF BULK AT MOST 1048576: true; the input reads as it did. -/
def componentSplitsUptoRow : OpenClaim := { program := "ytfmdkdfhnkennaa", sum := "ee429583f2adcb6b2b05fc3d0b3c76fe3e9f45bdbe7d6d33a8b2a3db30bb43e4", func := "recordlink/recordlinklaw30.ComponentSplits", spec := "componentSplits", unfollowed := true, recurses := true, plainKeys := false, apart := false, narrowed := true }
def ComponentSplitsUptoSaid : Prop := componentSplitsUptoRow.holds Try.pinned (OpenSpec.upto componentSplitsSpec)

/-- 'recordlinklaw30.ComponentJoins', WHERE WHAT IT READS IS OF BULK AT MOST 1048576: true; the input reads as it did. -/
def componentJoinsUptoRow : OpenClaim := { program := "ytfmdkdfhnkennaa", sum := "ee429583f2adcb6b2b05fc3d0b3c76fe3e9f45bdbe7d6d33a8b2a3db30bb43e4", func := "recordlink/recordlinklaw30.ComponentJoins", spec := "componentJoins", unfollowed := true, recurses := true, plainKeys := false, apart := false, narrowed := true }
def ComponentJoinsUptoSaid : Prop := componentJoinsUptoRow.holds Try.pinned (OpenSpec.upto componentJoinsSpec)

/-- 'recordlinklaw30.ComponentNames', WHERE WHAT IT READS IS OF BULK AT MOST 1048576: true; the input reads as it did. -/
def componentNamesUptoRow : OpenClaim := { program := "ytfmdkdfhnkennaa", sum := "ee429583f2adcb6b2b05fc3d0b3c76fe3e9f45bdbe7d6d33a8b2a3db30bb43e4", func := "recordlink/recordlinklaw30.ComponentNames", spec := "componentNames", unfollowed := true, recurses := true, plainKeys := false, apart := false, narrowed := true }
def ComponentNamesUptoSaid : Prop := componentNamesUptoRow.holds Try.pinned (OpenSpec.upto componentNamesSpec)

end Rows
end Go.Proofs.Ytfmdkdfhnkennaa
