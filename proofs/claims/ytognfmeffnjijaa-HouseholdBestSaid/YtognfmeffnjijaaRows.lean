/-
  No cell of these rows narrows 'for every input' (looked for: loops, veiled, ifaces, maps, wideKeys, modest, calm, conditions, laid).
  DERIVED. THE GIVEN ROWS OF THIS SEAT. 4 by the template 'for every input the law returns true; each argument reads behind the call as it read before'; 0 by the template 'total and deterministic' (their statements: YtognfmeffnjijaaTotals.lean).
  GIVEN WITH THE SEED: the statements are not yours to turn. If you find one false, say at which input.
  Laid BY PROGRAM, IN A SANDBOX (cutbox-rows.mjs): the forced cells as the released guide's own fill.sh prints them over the translation a23aaba973d2db81… (all of the seat's roots in one cut). By AI agents, Wed Nov 11 2026. No macro, syntax, notation, axiom, sorry.
-/
import Derived.Test.YtognfmeffnjijaaChecked
import GoSem.Claim
import GoSem.ClaimJoined
import GoSem.ClaimMapViews
import Derived.JoinedTies
import Derived.KernelRfl
namespace Go.Proofs.Ytognfmeffnjijaa
/- THE CELL 'sum', in the pinned program and in every row, IS THE sha256 OF THE DUMP (.gsa) THAT YtognfmeffnjijaaProg.lean LOADS. Nothing in Lean hashes anything: it is a label: what it is worth is what the hold of that sum in a sandbox is worth. -/
noncomputable def Try.pinned : Pinned := { name := "ytognfmeffnjijaa", sum := "a23aaba973d2db81e87b9c138fea4e2bc1b85cff268845b57c3a5b9a1b9856b2", checked := Try.checked }
namespace Rows
def none {H : Type} : Left H := { results := [], args := [] }

/-- 'recordlinklaw29.HouseholdBest': WHATEVER THE INPUT: true; the input reads as it did. -/
def householdBestSpec : ChangeSpec := { name := "householdBest", fn := fun _ => fun
  | [d] => { results := [.lit (.bool true)], args := [d] }
  | _ => none }
def householdBestRow : OpenClaim := { program := "ytognfmeffnjijaa", sum := "a23aaba973d2db81e87b9c138fea4e2bc1b85cff268845b57c3a5b9a1b9856b2", func := "recordlink/recordlinklaw29.HouseholdBest", spec := "householdBest", unfollowed := true, recurses := true, plainKeys := false, apart := false }
def HouseholdBestSaid : Prop := householdBestRow.holds Try.pinned (OpenSpec.ofChange householdBestSpec)

/-- ITS FALSE NEIGHBOUR: 'it returns false'. Refute it at one input. -/
def householdBestWrong : ChangeSpec := { name := "householdBest", fn := fun _ => fun
  | [d] => { results := [.lit (.bool false)], args := [d] }
  | _ => none }
def HouseholdBestWrongFalsely : Prop := householdBestRow.holds Try.pinned (OpenSpec.ofChange householdBestWrong)

/-- 'recordlinklaw29.HouseholdNames': WHATEVER THE INPUT: true; the input reads as it did. -/
def householdNamesSpec : ChangeSpec := { name := "householdNames", fn := fun _ => fun
  | [d1, d2] => { results := [.lit (.bool true)], args := [d1, d2] }
  | _ => none }
def householdNamesRow : OpenClaim := { program := "ytognfmeffnjijaa", sum := "a23aaba973d2db81e87b9c138fea4e2bc1b85cff268845b57c3a5b9a1b9856b2", func := "recordlink/recordlinklaw29.HouseholdNames", spec := "householdNames", unfollowed := true, recurses := true, plainKeys := false, apart := false }
def HouseholdNamesSaid : Prop := householdNamesRow.holds Try.pinned (OpenSpec.ofChange householdNamesSpec)

/-- ITS FALSE NEIGHBOUR: 'it returns false'. Refute it at one input. -/
def householdNamesWrong : ChangeSpec := { name := "householdNames", fn := fun _ => fun
  | [d1, d2] => { results := [.lit (.bool false)], args := [d1, d2] }
  | _ => none }
def HouseholdNamesWrongFalsely : Prop := householdNamesRow.holds Try.pinned (OpenSpec.ofChange householdNamesWrong)

/-- 'recordlinklaw29.HouseholdSingle': WHATEVER THE INPUT: true; the input reads as it did. -/
def householdSingleSpec : ChangeSpec := { name := "householdSingle", fn := fun _ => fun
  | [d] => { results := [.lit (.bool true)], args := [d] }
  | _ => none }
def householdSingleRow : OpenClaim := { program := "ytognfmeffnjijaa", sum := "a23aaba973d2db81e87b9c138fea4e2bc1b85cff268845b57c3a5b9a1b9856b2", func := "recordlink/recordlinklaw29.HouseholdSingle", spec := "householdSingle", unfollowed := true, recurses := true, plainKeys := false, apart := false }
def HouseholdSingleSaid : Prop := householdSingleRow.holds Try.pinned (OpenSpec.ofChange householdSingleSpec)

/-- ITS FALSE NEIGHBOUR: 'it returns false'. Refute it at one input. -/
def householdSingleWrong : ChangeSpec := { name := "householdSingle", fn := fun _ => fun
  | [d] => { results := [.lit (.bool false)], args := [d] }
  | _ => none }
def HouseholdSingleWrongFalsely : Prop := householdSingleRow.holds Try.pinned (OpenSpec.ofChange householdSingleWrong)

/-- 'recordlinklaw29.HouseholdGains': WHATEVER THE INPUT: true; the input reads as it did. -/
def householdGainsSpec : ChangeSpec := { name := "householdGains", fn := fun _ => fun
  | [d] => { results := [.lit (.bool true)], args := [d] }
  | _ => none }
def householdGainsRow : OpenClaim := { program := "ytognfmeffnjijaa", sum := "a23aaba973d2db81e87b9c138fea4e2bc1b85cff268845b57c3a5b9a1b9856b2", func := "recordlink/recordlinklaw29.HouseholdGains", spec := "householdGains", unfollowed := true, recurses := true, plainKeys := false, apart := false }
def HouseholdGainsSaid : Prop := householdGainsRow.holds Try.pinned (OpenSpec.ofChange householdGainsSpec)

/-- ITS FALSE NEIGHBOUR: 'it returns false'. Refute it at one input. -/
def householdGainsWrong : ChangeSpec := { name := "householdGains", fn := fun _ => fun
  | [d] => { results := [.lit (.bool false)], args := [d] }
  | _ => none }
def HouseholdGainsWrongFalsely : Prop := householdGainsRow.holds Try.pinned (OpenSpec.ofChange householdGainsWrong)

/- THE SECOND FORM. 'bulk': how many values and letters a reading holds, each counted each time it is reached (what is shared counts as often as it is met; a slice's spare places count too). A statement '..UptoSaid' is the law's where the arguments, and the package variables that the reading takes, are together of bulk at most 1048576: NARROWER than '..Said'. Prove '..Said' where nothing that the law and all that it calls make is longer than what came in: it says more and counts as full. Else prove '..UptoSaid'. A law counts once. -/
mutual
def uptoBulk {H : Type} : DataW H → Nat
  | .lit (.string bytes) => bytes.length + 1
  | .lit _ => 1
  | .nil => 1
  | .ptr d => uptoBulk d + 1
  | .slice elems spare => uptoBulkAll elems + uptoBulkAll spare + 1
  | .agg parts => uptoBulkAll parts + 1
  | .iface _ d => uptoBulk d + 1
  | .map entries => uptoBulkEntries entries + 1
  | .held _ => 1
def uptoBulkAll {H : Type} : List (DataW H) → Nat
  | [] => 0
  | d :: r => uptoBulk d + uptoBulkAll r
def uptoBulkEntries {H : Type} : List (Lit × DataW H) → Nat
  | [] => 0
  | x :: r => uptoBulkEntry x + uptoBulkEntries r
def uptoBulkEntry {H : Type} : Lit × DataW H → Nat
  | (.string bytes, d) => bytes.length + uptoBulk d + 1
  | (_, d) => uptoBulk d + 1
 end
def uptoSmall : (H : Type) → List (DataW H) → Bool := fun _ ds => decide (uptoBulkAll ds ≤ 1048576)
def OpenSpec.upto (s : _root_.Go.ChangeSpec) : _root_.Go.OpenSpec := { _root_.Go.OpenSpec.ofChange s with cond := some uptoSmall }

/-- 'recordlinklaw29.HouseholdBest', WHERE WHAT IT READS IS OF BULK AT MOST 1048576: true; the input reads as it did. -/
def householdBestUptoRow : OpenClaim := { program := "ytognfmeffnjijaa", sum := "a23aaba973d2db81e87b9c138fea4e2bc1b85cff268845b57c3a5b9a1b9856b2", func := "recordlink/recordlinklaw29.HouseholdBest", spec := "householdBest", unfollowed := true, recurses := true, plainKeys := false, apart := false, narrowed := true }
def HouseholdBestUptoSaid : Prop := householdBestUptoRow.holds Try.pinned (OpenSpec.upto householdBestSpec)

/-- 'recordlinklaw29.HouseholdNames', WHERE WHAT IT READS IS OF BULK AT MOST 1048576: true; the input reads as it did. -/
def householdNamesUptoRow : OpenClaim := { program := "ytognfmeffnjijaa", sum := "a23aaba973d2db81e87b9c138fea4e2bc1b85cff268845b57c3a5b9a1b9856b2", func := "recordlink/recordlinklaw29.HouseholdNames", spec := "householdNames", unfollowed := true, recurses := true, plainKeys := false, apart := false, narrowed := true }
def HouseholdNamesUptoSaid : Prop := householdNamesUptoRow.holds Try.pinned (OpenSpec.upto householdNamesSpec)

/-- 'recordlinklaw29.HouseholdSingle', WHERE WHAT IT READS IS OF BULK AT MOST 1048576: true; the input reads as it did. -/
def householdSingleUptoRow : OpenClaim := { program := "ytognfmeffnjijaa", sum := "a23aaba973d2db81e87b9c138fea4e2bc1b85cff268845b57c3a5b9a1b9856b2", func := "recordlink/recordlinklaw29.HouseholdSingle", spec := "householdSingle", unfollowed := true, recurses := true, plainKeys := false, apart := false, narrowed := true }
def HouseholdSingleUptoSaid : Prop := householdSingleUptoRow.holds Try.pinned (OpenSpec.upto householdSingleSpec)

/-- 'recordlinklaw29.HouseholdGains', WHERE WHAT IT READS IS OF BULK AT MOST 1048576: true; the input reads as it did. -/
def householdGainsUptoRow : OpenClaim := { program := "ytognfmeffnjijaa", sum := "a23aaba973d2db81e87b9c138fea4e2bc1b85cff268845b57c3a5b9a1b9856b2", func := "recordlink/recordlinklaw29.HouseholdGains", spec := "householdGains", unfollowed := true, recurses := true, plainKeys := false, apart := false, narrowed := true }
def HouseholdGainsUptoSaid : Prop := householdGainsUptoRow.holds Try.pinned (OpenSpec.upto householdGainsSpec)

end Rows
end Go.Proofs.Ytognfmeffnjijaa
