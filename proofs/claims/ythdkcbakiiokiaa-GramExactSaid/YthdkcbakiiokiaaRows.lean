/-
  No cell of these rows narrows 'for every input' (looked for: loops, veiled, ifaces, maps, wideKeys, modest, calm, conditions, laid).
  DERIVED. THE GIVEN ROWS OF THIS SEAT. 5 by the template 'for every input the law returns true; each argument reads behind the call as it read before'; 0 by the template 'total and deterministic' (their statements: YthdkcbakiiokiaaTotals.lean).
  GIVEN WITH THE SEED: the statements are not yours to turn. If you find one false, say at which input.
  Laid BY PROGRAM, IN A SANDBOX (cutbox-rows.mjs): the forced cells as the released guide's own fill.sh prints them over the translation 453db9cada0b8835… (all of the seat's roots in one cut). By AI agents, Wed Nov 11 2026. No macro, syntax, notation, axiom, sorry.
-/
import Derived.Test.YthdkcbakiiokiaaChecked
import GoSem.Claim
import GoSem.ClaimJoined
import GoSem.ClaimMapViews
import Derived.JoinedTies
import Derived.KernelRfl
namespace Go.Proofs.Ythdkcbakiiokiaa
/- THE CELL 'sum', in the pinned program and in every row, IS THE sha256 OF THE DUMP (.gsa) THAT YthdkcbakiiokiaaProg.lean LOADS. Nothing in Lean hashes anything: it is a label: what it is worth is what the hold of that sum in a sandbox is worth. -/
noncomputable def Try.pinned : Pinned := { name := "ythdkcbakiiokiaa", sum := "453db9cada0b8835a06b5760d62f179bcb6fb910567148774e223bfeee3ab7aa", checked := Try.checked }
namespace Rows
def none {H : Type} : Left H := { results := [], args := [] }

/-- 'recordlinklaw05.GramExact': WHATEVER THE INPUT: true; the input reads as it did. -/
def gramExactSpec : ChangeSpec := { name := "gramExact", fn := fun _ => fun
  | [d1, d2, d3, d4] => { results := [.lit (.bool true)], args := [d1, d2, d3, d4] }
  | _ => none }
def gramExactRow : OpenClaim := { program := "ythdkcbakiiokiaa", sum := "453db9cada0b8835a06b5760d62f179bcb6fb910567148774e223bfeee3ab7aa", func := "recordlink/recordlinklaw05.GramExact", spec := "gramExact", unfollowed := true, recurses := true, apart := false }
def GramExactSaid : Prop := gramExactRow.holds Try.pinned (OpenSpec.ofChange gramExactSpec)

/-- ITS FALSE NEIGHBOUR: 'it returns false'. Refute it at one input. -/
def gramExactWrong : ChangeSpec := { name := "gramExact", fn := fun _ => fun
  | [d1, d2, d3, d4] => { results := [.lit (.bool false)], args := [d1, d2, d3, d4] }
  | _ => none }
def GramExactWrongFalsely : Prop := gramExactRow.holds Try.pinned (OpenSpec.ofChange gramExactWrong)

/-- 'recordlinklaw05.GramTokens': WHATEVER THE INPUT: true; the input reads as it did. -/
def gramTokensSpec : ChangeSpec := { name := "gramTokens", fn := fun _ => fun
  | [d] => { results := [.lit (.bool true)], args := [d] }
  | _ => none }
def gramTokensRow : OpenClaim := { program := "ythdkcbakiiokiaa", sum := "453db9cada0b8835a06b5760d62f179bcb6fb910567148774e223bfeee3ab7aa", func := "recordlink/recordlinklaw05.GramTokens", spec := "gramTokens", unfollowed := true, recurses := true, apart := false }
def GramTokensSaid : Prop := gramTokensRow.holds Try.pinned (OpenSpec.ofChange gramTokensSpec)

/-- ITS FALSE NEIGHBOUR: 'it returns false'. Refute it at one input. -/
def gramTokensWrong : ChangeSpec := { name := "gramTokens", fn := fun _ => fun
  | [d] => { results := [.lit (.bool false)], args := [d] }
  | _ => none }
def GramTokensWrongFalsely : Prop := gramTokensRow.holds Try.pinned (OpenSpec.ofChange gramTokensWrong)

/-- 'recordlinklaw05.GramChange': WHATEVER THE INPUT: true; the input reads as it did. -/
def gramChangeSpec : ChangeSpec := { name := "gramChange", fn := fun _ => fun
  | [d1, d2, d3] => { results := [.lit (.bool true)], args := [d1, d2, d3] }
  | _ => none }
def gramChangeRow : OpenClaim := { program := "ythdkcbakiiokiaa", sum := "453db9cada0b8835a06b5760d62f179bcb6fb910567148774e223bfeee3ab7aa", func := "recordlink/recordlinklaw05.GramChange", spec := "gramChange", unfollowed := true, recurses := true, apart := false }
def GramChangeSaid : Prop := gramChangeRow.holds Try.pinned (OpenSpec.ofChange gramChangeSpec)

/-- ITS FALSE NEIGHBOUR: 'it returns false'. Refute it at one input. -/
def gramChangeWrong : ChangeSpec := { name := "gramChange", fn := fun _ => fun
  | [d1, d2, d3] => { results := [.lit (.bool false)], args := [d1, d2, d3] }
  | _ => none }
def GramChangeWrongFalsely : Prop := gramChangeRow.holds Try.pinned (OpenSpec.ofChange gramChangeWrong)

/-- 'recordlinklaw05.GramDice': WHATEVER THE INPUT: true; the input reads as it did. -/
def gramDiceSpec : ChangeSpec := { name := "gramDice", fn := fun _ => fun
  | [d] => { results := [.lit (.bool true)], args := [d] }
  | _ => none }
def gramDiceRow : OpenClaim := { program := "ythdkcbakiiokiaa", sum := "453db9cada0b8835a06b5760d62f179bcb6fb910567148774e223bfeee3ab7aa", func := "recordlink/recordlinklaw05.GramDice", spec := "gramDice", unfollowed := true, recurses := true, apart := false }
def GramDiceSaid : Prop := gramDiceRow.holds Try.pinned (OpenSpec.ofChange gramDiceSpec)

/-- ITS FALSE NEIGHBOUR: 'it returns false'. Refute it at one input. -/
def gramDiceWrong : ChangeSpec := { name := "gramDice", fn := fun _ => fun
  | [d] => { results := [.lit (.bool false)], args := [d] }
  | _ => none }
def GramDiceWrongFalsely : Prop := gramDiceRow.holds Try.pinned (OpenSpec.ofChange gramDiceWrong)

/-- 'recordlinklaw05.GramPositions': WHATEVER THE INPUT: true; the input reads as it did. -/
def gramPositionsSpec : ChangeSpec := { name := "gramPositions", fn := fun _ => fun
  | [d] => { results := [.lit (.bool true)], args := [d] }
  | _ => none }
def gramPositionsRow : OpenClaim := { program := "ythdkcbakiiokiaa", sum := "453db9cada0b8835a06b5760d62f179bcb6fb910567148774e223bfeee3ab7aa", func := "recordlink/recordlinklaw05.GramPositions", spec := "gramPositions", unfollowed := true, recurses := true, apart := false }
def GramPositionsSaid : Prop := gramPositionsRow.holds Try.pinned (OpenSpec.ofChange gramPositionsSpec)

/-- ITS FALSE NEIGHBOUR: 'it returns false'. Refute it at one input. -/
def gramPositionsWrong : ChangeSpec := { name := "gramPositions", fn := fun _ => fun
  | [d] => { results := [.lit (.bool false)], args := [d] }
  | _ => none }
def GramPositionsWrongFalsely : Prop := gramPositionsRow.holds Try.pinned (OpenSpec.ofChange gramPositionsWrong)

/- THE SECOND FORM. 'bulk': how many values and letters a reading holds, each counted each time it is reached (what is shared counts as often as it is met; a slice's spare places count too). A statement '..UptoSaid' is the law's where the arguments, and the package variables that the reading takes, are together of bulk at most 1048576: NARROWER than '..Said'. Prove '..Said' where nothing that the law and all that it calls make is longer than what came in: it says more and counts as full. Else prove '..UptoSaid'. A law counts once. -/
mutual
def uptoBulk {H : Type} : DataW H → Nat
  | .lit (.string bytes) => bytes.length + 1
  | .lit _ => 1
  | .nil => 1
  | .ptr d => uptoBulk d + 1
  | .slice elems spare => uptoBulkAll elems + uptoBulkAll spare + 1
  | .agg parts => uptoBulkAll parts + 1
  | .iface _ d => uptoBulk d + 1
  | .map entries => uptoBulkEntries entries + 1
  | .held _ => 1
def uptoBulkAll {H : Type} : List (DataW H) → Nat
  | [] => 0
  | d :: r => uptoBulk d + uptoBulkAll r
def uptoBulkEntries {H : Type} : List (Lit × DataW H) → Nat
  | [] => 0
  | x :: r => uptoBulkEntry x + uptoBulkEntries r
def uptoBulkEntry {H : Type} : Lit × DataW H → Nat
  | (.string bytes, d) => bytes.length + uptoBulk d + 1
  | (_, d) => uptoBulk d + 1
 end
def uptoSmall : (H : Type) → List (DataW H) → Bool := fun _ ds => decide (uptoBulkAll ds ≤ 1048576)
def OpenSpec.upto (s : _root_.Go.ChangeSpec) : _root_.Go.OpenSpec := { _root_.Go.OpenSpec.ofChange s with cond := some uptoSmall }

/-- 'recordlinklaw05.GramExact', WHERE WHAT IT READS IS OF BULK AT MOST 1048576: true; the input reads as it did. -/
def gramExactUptoRow : OpenClaim := { program := "ythdkcbakiiokiaa", sum := "453db9cada0b8835a06b5760d62f179bcb6fb910567148774e223bfeee3ab7aa", func := "recordlink/recordlinklaw05.GramExact", spec := "gramExact", unfollowed := true, recurses := true, apart := false, narrowed := true }
def GramExactUptoSaid : Prop := gramExactUptoRow.holds Try.pinned (OpenSpec.upto gramExactSpec)

/-- 'recordlinklaw05.GramTokens', WHERE WHAT IT READS IS OF BULK AT MOST 1048576: true; the input reads as it did. -/
def gramTokensUptoRow : OpenClaim := { program := "ythdkcbakiiokiaa", sum := "453db9cada0b8835a06b5760d62f179bcb6fb910567148774e223bfeee3ab7aa", func := "recordlink/recordlinklaw05.GramTokens", spec := "gramTokens", unfollowed := true, recurses := true, apart := false, narrowed := true }
def GramTokensUptoSaid : Prop := gramTokensUptoRow.holds Try.pinned (OpenSpec.upto gramTokensSpec)

/-- 'recordlinklaw05.GramChange', WHERE WHAT IT READS IS OF BULK AT MOST 1048576: true; the input reads as it did. -/
def gramChangeUptoRow : OpenClaim := { program := "ythdkcbakiiokiaa", sum := "453db9cada0b8835a06b5760d62f179bcb6fb910567148774e223bfeee3ab7aa", func := "recordlink/recordlinklaw05.GramChange", spec := "gramChange", unfollowed := true, recurses := true, apart := false, narrowed := true }
def GramChangeUptoSaid : Prop := gramChangeUptoRow.holds Try.pinned (OpenSpec.upto gramChangeSpec)

/-- 'recordlinklaw05.GramDice', WHERE WHAT IT READS IS OF BULK AT MOST 1048576: true; the input reads as it did. -/
def gramDiceUptoRow : OpenClaim := { program := "ythdkcbakiiokiaa", sum := "453db9cada0b8835a06b5760d62f179bcb6fb910567148774e223bfeee3ab7aa", func := "recordlink/recordlinklaw05.GramDice", spec := "gramDice", unfollowed := true, recurses := true, apart := false, narrowed := true }
def GramDiceUptoSaid : Prop := gramDiceUptoRow.holds Try.pinned (OpenSpec.upto gramDiceSpec)

/-- 'recordlinklaw05.GramPositions', WHERE WHAT IT READS IS OF BULK AT MOST 1048576: true; the input reads as it did. -/
def gramPositionsUptoRow : OpenClaim := { program := "ythdkcbakiiokiaa", sum := "453db9cada0b8835a06b5760d62f179bcb6fb910567148774e223bfeee3ab7aa", func := "recordlink/recordlinklaw05.GramPositions", spec := "gramPositions", unfollowed := true, recurses := true, apart := false, narrowed := true }
def GramPositionsUptoSaid : Prop := gramPositionsUptoRow.holds Try.pinned (OpenSpec.upto gramPositionsSpec)

end Rows
end Go.Proofs.Ythdkcbakiiokiaa
