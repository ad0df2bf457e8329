/-
  No cell of these rows narrows 'for every input' (looked for: loops, veiled, ifaces, maps, wideKeys, modest, calm, conditions, laid).
  DERIVED. THE GIVEN ROWS OF THIS SEAT. 4 by the template 'for every input the law returns true; each argument reads behind the call as it read before'; 0 by the template 'total and deterministic' (their statements: YtbdlkdiadplmcaaTotals.lean).
  GIVEN WITH THE SEED: the statements are not yours to turn. If you find one false, say at which input.
  Laid BY PROGRAM, IN A SANDBOX (cutbox-rows.mjs): the forced cells as the released guide's own fill.sh prints them over the translation 346d51923e2e6f85… (all of the seat's roots in one cut). By AI agents, Wed Nov 11 2026. No macro, syntax, notation, axiom, sorry.
-/
import Derived.Test.YtbdlkdiadplmcaaChecked
import GoSem.Claim
import GoSem.ClaimJoined
import GoSem.ClaimMapViews
import Derived.JoinedTies
import Derived.KernelRfl
namespace Go.Proofs.Ytbdlkdiadplmcaa
/- THE CELL 'sum', in the pinned program and in every row, IS THE sha256 OF THE DUMP (.gsa) THAT YtbdlkdiadplmcaaProg.lean LOADS. Nothing in Lean hashes anything: it is a label: what it is worth is what the hold of that sum in a sandbox is worth. -/
noncomputable def Try.pinned : Pinned := { name := "ytbdlkdiadplmcaa", sum := "346d51923e2e6f85962eec54624274d05212326f312e772cfd2c6c9fbfe459a7", checked := Try.checked }
namespace Rows
def none {H : Type} : Left H := { results := [], args := [] }

/-- 'recordlinklaw18.AttackGroups': WHATEVER THE INPUT: true; the input reads as it did. -/
def attackGroupsSpec : ChangeSpec := { name := "attackGroups", fn := fun _ => fun
  | [d] => { results := [.lit (.bool true)], args := [d] }
  | _ => none }
def attackGroupsRow : OpenClaim := { program := "ytbdlkdiadplmcaa", sum := "346d51923e2e6f85962eec54624274d05212326f312e772cfd2c6c9fbfe459a7", func := "recordlink/recordlinklaw18.AttackGroups", spec := "attackGroups", unfollowed := true, recurses := true, apart := false }
def AttackGroupsSaid : Prop := attackGroupsRow.holds Try.pinned (OpenSpec.ofChange attackGroupsSpec)

/-- ITS FALSE NEIGHBOUR: 'it returns false'. Refute it at one input. -/
def attackGroupsWrong : ChangeSpec := { name := "attackGroups", fn := fun _ => fun
  | [d] => { results := [.lit (.bool false)], args := [d] }
  | _ => none }
def AttackGroupsWrongFalsely : Prop := attackGroupsRow.holds Try.pinned (OpenSpec.ofChange attackGroupsWrong)

/-- 'recordlinklaw18.AttackBlind': WHATEVER THE INPUT: true; the input reads as it did. -/
def attackBlindSpec : ChangeSpec := { name := "attackBlind", fn := fun _ => fun
  | [d] => { results := [.lit (.bool true)], args := [d] }
  | _ => none }
def attackBlindRow : OpenClaim := { program := "ytbdlkdiadplmcaa", sum := "346d51923e2e6f85962eec54624274d05212326f312e772cfd2c6c9fbfe459a7", func := "recordlink/recordlinklaw18.AttackBlind", spec := "attackBlind", unfollowed := true, recurses := true, apart := false }
def AttackBlindSaid : Prop := attackBlindRow.holds Try.pinned (OpenSpec.ofChange attackBlindSpec)

/-- ITS FALSE NEIGHBOUR: 'it returns false'. Refute it at one input. -/
def attackBlindWrong : ChangeSpec := { name := "attackBlind", fn := fun _ => fun
  | [d] => { results := [.lit (.bool false)], args := [d] }
  | _ => none }
def AttackBlindWrongFalsely : Prop := attackBlindRow.holds Try.pinned (OpenSpec.ofChange attackBlindWrong)

/-- 'recordlinklaw18.AttackOnce': WHATEVER THE INPUT: true; the input reads as it did. -/
def attackOnceSpec : ChangeSpec := { name := "attackOnce", fn := fun _ => fun
  | [d] => { results := [.lit (.bool true)], args := [d] }
  | _ => none }
def attackOnceRow : OpenClaim := { program := "ytbdlkdiadplmcaa", sum := "346d51923e2e6f85962eec54624274d05212326f312e772cfd2c6c9fbfe459a7", func := "recordlink/recordlinklaw18.AttackOnce", spec := "attackOnce", unfollowed := true, recurses := true, apart := false }
def AttackOnceSaid : Prop := attackOnceRow.holds Try.pinned (OpenSpec.ofChange attackOnceSpec)

/-- ITS FALSE NEIGHBOUR: 'it returns false'. Refute it at one input. -/
def attackOnceWrong : ChangeSpec := { name := "attackOnce", fn := fun _ => fun
  | [d] => { results := [.lit (.bool false)], args := [d] }
  | _ => none }
def AttackOnceWrongFalsely : Prop := attackOnceRow.holds Try.pinned (OpenSpec.ofChange attackOnceWrong)

/-- 'recordlinklaw18.AttackAlways': WHATEVER THE INPUT: true; the input reads as it did. -/
def attackAlwaysSpec : ChangeSpec := { name := "attackAlways", fn := fun _ => fun
  | [d] => { results := [.lit (.bool true)], args := [d] }
  | _ => none }
def attackAlwaysRow : OpenClaim := { program := "ytbdlkdiadplmcaa", sum := "346d51923e2e6f85962eec54624274d05212326f312e772cfd2c6c9fbfe459a7", func := "recordlink/recordlinklaw18.AttackAlways", spec := "attackAlways", unfollowed := true, recurses := true, apart := false }
def AttackAlwaysSaid : Prop := attackAlwaysRow.holds Try.pinned (OpenSpec.ofChange attackAlwaysSpec)

/-- ITS FALSE NEIGHBOUR: 'it returns false'. Refute it at one input. -/
def attackAlwaysWrong : ChangeSpec := { name := "attackAlways", fn := fun _ => fun
  | [d] => { results := [.lit (.bool false)], args := [d] }
  | _ => none }
def AttackAlwaysWrongFalsely : Prop := attackAlwaysRow.holds Try.pinned (OpenSpec.ofChange attackAlwaysWrong)

/- THE SECOND FORM. 'bulk': how many values and letters a reading holds, each counted each time it is reached (what is shared counts as often as it is met; a slice's spare places count too). A statement '..UptoSaid' is the law's where the arguments, and the package variables that the reading takes, are together of bulk at most 1048576: NARROWER than '..Said'. Prove '..Said' where nothing that the law and all that it calls make is longer than what came in: it says more and counts as full. Else prove '..UptoSaid'. A law counts once. -/
mutual
def uptoBulk {H : Type} : DataW H → Nat
  | .lit (.string bytes) => bytes.length + 1
  | .lit _ => 1
  | .nil => 1
  | .ptr d => uptoBulk d + 1
  | .slice elems spare => uptoBulkAll elems + uptoBulkAll spare + 1
  | .agg parts => uptoBulkAll parts + 1
  | .iface _ d => uptoBulk d + 1
  | .map entries => uptoBulkEntries entries + 1
  | .held _ => 1
def uptoBulkAll {H : Type} : List (DataW H) → Nat
  | [] => 0
  | d :: r => uptoBulk d + uptoBulkAll r
def uptoBulkEntries {H : Type} : List (Lit × DataW H) → Nat
  | [] => 0
  | x :: r => uptoBulkEntry x + uptoBulkEntries r
def uptoBulkEntry {H : Type} : Lit × DataW H → Nat
  | (.string bytes, d) => bytes.length + uptoBulk d + 1
  | (_, d) => uptoBulk d + 1
 end
def uptoSmall : (H : Type) → List (DataW H) → Bool := fun _ ds => decide (uptoBulkAll ds ≤ 1048576)
def OpenSpec.upto (s : _root_.Go.ChangeSpec) : _root_.Go.OpenSpec := { _root_.Go.OpenSpec.ofChange s with cond := some uptoSmall }

/-- 'recordlinklaw18.AttackGroups', WHERE WHAT IT READS IS OF BULK AT MOST 1048576: true; the input reads as it did. -/
def attackGroupsUptoRow : OpenClaim := { program := "ytbdlkdiadplmcaa", sum := "346d51923e2e6f85962eec54624274d05212326f312e772cfd2c6c9fbfe459a7", func := "recordlink/recordlinklaw18.AttackGroups", spec := "attackGroups", unfollowed := true, recurses := true, apart := false, narrowed := true }
def AttackGroupsUptoSaid : Prop := attackGroupsUptoRow.holds Try.pinned (OpenSpec.upto attackGroupsSpec)

/-- 'recordlinklaw18.AttackBlind', WHERE WHAT IT READS IS OF BULK AT MOST 1048576: true; the input reads as it did. -/
def attackBlindUptoRow : OpenClaim := { program := "ytbdlkdiadplmcaa", sum := "346d51923e2e6f85962eec54624274d05212326f312e772cfd2c6c9fbfe459a7", func := "recordlink/recordlinklaw18.AttackBlind", spec := "attackBlind", unfollowed := true, recurses := true, apart := false, narrowed := true }
def AttackBlindUptoSaid : Prop := attackBlindUptoRow.holds Try.pinned (OpenSpec.upto attackBlindSpec)

/-- 'recordlinklaw18.AttackOnce', WHERE WHAT IT READS IS OF BULK AT MOST 1048576: true; the input reads as it did. -/
def attackOnceUptoRow : OpenClaim := { program := "ytbdlkdiadplmcaa", sum := "346d51923e2e6f85962eec54624274d05212326f312e772cfd2c6c9fbfe459a7", func := "recordlink/recordlinklaw18.AttackOnce", spec := "attackOnce", unfollowed := true, recurses := true, apart := false, narrowed := true }
def AttackOnceUptoSaid : Prop := attackOnceUptoRow.holds Try.pinned (OpenSpec.upto attackOnceSpec)

/-- 'recordlinklaw18.AttackAlways', WHERE WHAT IT READS IS OF BULK AT MOST 1048576: true; the input reads as it did. -/
def attackAlwaysUptoRow : OpenClaim := { program := "ytbdlkdiadplmcaa", sum := "346d51923e2e6f85962eec54624274d05212326f312e772cfd2c6c9fbfe459a7", func := "recordlink/recordlinklaw18.AttackAlways", spec := "attackAlways", unfollowed := true, recurses := true, apart := false, narrowed := true }
def AttackAlwaysUptoSaid : Prop := attackAlwaysUptoRow.holds Try.pinned (OpenSpec.upto attackAlwaysSpec)

end Rows
end Go.Proofs.Ytbdlkdiadplmcaa
