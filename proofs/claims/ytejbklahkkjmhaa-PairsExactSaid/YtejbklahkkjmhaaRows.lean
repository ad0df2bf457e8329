/-
  No cell of these rows narrows 'for every input' (looked for: loops, veiled, ifaces, maps, wideKeys, modest, calm, conditions, laid).
  DERIVED. THE GIVEN ROWS OF THIS SEAT. 5 by the template 'for every input the law returns true; each argument reads behind the call as it read before'; 0 by the template 'total and deterministic' (their statements: YtejbklahkkjmhaaTotals.lean).
  GIVEN WITH THE SEED: the statements are not yours to turn. If you find one false, say at which input.
  Laid BY PROGRAM, IN A SANDBOX (cutbox-rows.mjs): the forced cells as the released guide's own fill.sh prints them over the translation ecfaf5c44fe747d8… (all of the seat's roots in one cut). By AI agents, Wed Nov 11 2026. No macro, syntax, notation, axiom, sorry.
-/
import Derived.Test.YtejbklahkkjmhaaChecked
import GoSem.Claim
import GoSem.ClaimJoined
import GoSem.ClaimMapViews
import Derived.JoinedTies
import Derived.KernelRfl
namespace Go.Proofs.Ytejbklahkkjmhaa
/- THE CELL 'sum', in the pinned program and in every row, IS THE sha256 OF THE DUMP (.gsa) THAT YtejbklahkkjmhaaProg.lean LOADS. Nothing in Lean hashes anything: it is a label: what it is worth is what the hold of that sum in a sandbox is worth. -/
noncomputable def Try.pinned : Pinned := { name := "ytejbklahkkjmhaa", sum := "ecfaf5c44fe747d8ca38b01b0e7aeece214ab1edb74e52b7f64a044d91feb4f3", checked := Try.checked }
namespace Rows
def none {H : Type} : Left H := { results := [], args := [] }

/-- 'recordlinklaw21.PairsList': WHATEVER THE INPUT: true; the input reads as it did. -/
def pairsListSpec : ChangeSpec := { name := "pairsList", fn := fun _ => fun
  | [d] => { results := [.lit (.bool true)], args := [d] }
  | _ => none }
def pairsListRow : OpenClaim := { program := "ytejbklahkkjmhaa", sum := "ecfaf5c44fe747d8ca38b01b0e7aeece214ab1edb74e52b7f64a044d91feb4f3", func := "recordlink/recordlinklaw21.PairsList", spec := "pairsList", unfollowed := true, recurses := true, plainKeys := false, apart := false }
def PairsListSaid : Prop := pairsListRow.holds Try.pinned (OpenSpec.ofChange pairsListSpec)

/-- ITS FALSE NEIGHBOUR: 'it returns false'. Refute it at one input. -/
def pairsListWrong : ChangeSpec := { name := "pairsList", fn := fun _ => fun
  | [d] => { results := [.lit (.bool false)], args := [d] }
  | _ => none }
def PairsListWrongFalsely : Prop := pairsListRow.holds Try.pinned (OpenSpec.ofChange pairsListWrong)

/-- 'recordlinklaw21.PairsInclusion': WHATEVER THE INPUT: true; the input reads as it did. -/
def pairsInclusionSpec : ChangeSpec := { name := "pairsInclusion", fn := fun _ => fun
  | [d] => { results := [.lit (.bool true)], args := [d] }
  | _ => none }
def pairsInclusionRow : OpenClaim := { program := "ytejbklahkkjmhaa", sum := "ecfaf5c44fe747d8ca38b01b0e7aeece214ab1edb74e52b7f64a044d91feb4f3", func := "recordlink/recordlinklaw21.PairsInclusion", spec := "pairsInclusion", unfollowed := true, recurses := true, plainKeys := false, apart := false }
def PairsInclusionSaid : Prop := pairsInclusionRow.holds Try.pinned (OpenSpec.ofChange pairsInclusionSpec)

/-- ITS FALSE NEIGHBOUR: 'it returns false'. Refute it at one input. -/
def pairsInclusionWrong : ChangeSpec := { name := "pairsInclusion", fn := fun _ => fun
  | [d] => { results := [.lit (.bool false)], args := [d] }
  | _ => none }
def PairsInclusionWrongFalsely : Prop := pairsInclusionRow.holds Try.pinned (OpenSpec.ofChange pairsInclusionWrong)

/-- 'recordlinklaw21.PairsSingle': WHATEVER THE INPUT: true; the input reads as it did. -/
def pairsSingleSpec : ChangeSpec := { name := "pairsSingle", fn := fun _ => fun
  | [d] => { results := [.lit (.bool true)], args := [d] }
  | _ => none }
def pairsSingleRow : OpenClaim := { program := "ytejbklahkkjmhaa", sum := "ecfaf5c44fe747d8ca38b01b0e7aeece214ab1edb74e52b7f64a044d91feb4f3", func := "recordlink/recordlinklaw21.PairsSingle", spec := "pairsSingle", unfollowed := true, recurses := true, plainKeys := false, apart := false }
def PairsSingleSaid : Prop := pairsSingleRow.holds Try.pinned (OpenSpec.ofChange pairsSingleSpec)

/-- ITS FALSE NEIGHBOUR: 'it returns false'. Refute it at one input. -/
def pairsSingleWrong : ChangeSpec := { name := "pairsSingle", fn := fun _ => fun
  | [d] => { results := [.lit (.bool false)], args := [d] }
  | _ => none }
def PairsSingleWrongFalsely : Prop := pairsSingleRow.holds Try.pinned (OpenSpec.ofChange pairsSingleWrong)

/-- 'recordlinklaw21.PairsExact': WHATEVER THE INPUT: true; the input reads as it did. -/
def pairsExactSpec : ChangeSpec := { name := "pairsExact", fn := fun _ => fun
  | [d1, d2, d3, d4] => { results := [.lit (.bool true)], args := [d1, d2, d3, d4] }
  | _ => none }
def pairsExactRow : OpenClaim := { program := "ytejbklahkkjmhaa", sum := "ecfaf5c44fe747d8ca38b01b0e7aeece214ab1edb74e52b7f64a044d91feb4f3", func := "recordlink/recordlinklaw21.PairsExact", spec := "pairsExact", unfollowed := true, recurses := true, plainKeys := false, apart := false }
def PairsExactSaid : Prop := pairsExactRow.holds Try.pinned (OpenSpec.ofChange pairsExactSpec)

/-- ITS FALSE NEIGHBOUR: 'it returns false'. Refute it at one input. -/
def pairsExactWrong : ChangeSpec := { name := "pairsExact", fn := fun _ => fun
  | [d1, d2, d3, d4] => { results := [.lit (.bool false)], args := [d1, d2, d3, d4] }
  | _ => none }
def PairsExactWrongFalsely : Prop := pairsExactRow.holds Try.pinned (OpenSpec.ofChange pairsExactWrong)

/-- 'recordlinklaw21.PairsGrow': WHATEVER THE INPUT: true; the input reads as it did. -/
def pairsGrowSpec : ChangeSpec := { name := "pairsGrow", fn := fun _ => fun
  | [d] => { results := [.lit (.bool true)], args := [d] }
  | _ => none }
def pairsGrowRow : OpenClaim := { program := "ytejbklahkkjmhaa", sum := "ecfaf5c44fe747d8ca38b01b0e7aeece214ab1edb74e52b7f64a044d91feb4f3", func := "recordlink/recordlinklaw21.PairsGrow", spec := "pairsGrow", unfollowed := true, recurses := true, plainKeys := false, apart := false }
def PairsGrowSaid : Prop := pairsGrowRow.holds Try.pinned (OpenSpec.ofChange pairsGrowSpec)

/-- ITS FALSE NEIGHBOUR: 'it returns false'. Refute it at one input. -/
def pairsGrowWrong : ChangeSpec := { name := "pairsGrow", fn := fun _ => fun
  | [d] => { results := [.lit (.bool false)], args := [d] }
  | _ => none }
def PairsGrowWrongFalsely : Prop := pairsGrowRow.holds Try.pinned (OpenSpec.ofChange pairsGrowWrong)

/- THE SECOND FORM. 'bulk': how many values and letters a reading holds, each counted each time it is reached (what is shared counts as often as it is met; a slice's spare places count too). A statement '..UptoSaid' is the law's where the arguments, and the package variables that the reading takes, are together of bulk at most 1048576: NARROWER than '..Said'. Prove '..Said' where nothing that the law and all that it calls make is longer than what came in: it says more and counts as full. Else prove '..UptoSaid'. A law counts once. -/
mutual
def uptoBulk {H : Type} : DataW H → Nat
  | .lit (.string bytes) => bytes.length + 1
  | .lit _ => 1
  | .nil => 1
  | .ptr d => uptoBulk d + 1
  | .slice elems spare => uptoBulkAll elems + uptoBulkAll spare + 1
  | .agg parts => uptoBulkAll parts + 1
  | .iface _ d => uptoBulk d + 1
  | .map entries => uptoBulkEntries entries + 1
  | .held _ => 1
def uptoBulkAll {H : Type} : List (DataW H) → Nat
  | [] => 0
  | d :: r => uptoBulk d + uptoBulkAll r
def uptoBulkEntries {H : Type} : List (Lit × DataW H) → Nat
  | [] => 0
  | x :: r => uptoBulkEntry x + uptoBulkEntries r
def uptoBulkEntry {H : Type} : Lit × DataW H → Nat
  | (.string bytes, d) => bytes.length + uptoBulk d + 1
  | (_, d) => uptoBulk d + 1
 end
def uptoSmall : (H : Type) → List (DataW H) → Bool := fun _ ds => decide (uptoBulkAll ds ≤ 1048576)
def OpenSpec.upto (s : _root_.Go.ChangeSpec) : _root_.Go.OpenSpec := { _root_.Go.OpenSpec.ofChange s with cond := some uptoSmall }

/-- 'recordlinklaw21.PairsList', WHERE WHAT IT READS IS OF BULK AT MOST 1048576: true; the input reads as it did. -/
def pairsListUptoRow : OpenClaim := { program := "ytejbklahkkjmhaa", sum := "ecfaf5c44fe747d8ca38b01b0e7aeece214ab1edb74e52b7f64a044d91feb4f3", func := "recordlink/recordlinklaw21.PairsList", spec := "pairsList", unfollowed := true, recurses := true, plainKeys := false, apart := false, narrowed := true }
def PairsListUptoSaid : Prop := pairsListUptoRow.holds Try.pinned (OpenSpec.upto pairsListSpec)

/-- 'recordlinklaw21.PairsInclusion', WHERE WHAT IT READS IS OF BULK AT MOST 1048576: true; the input reads as it did. -/
def pairsInclusionUptoRow : OpenClaim := { program := "ytejbklahkkjmhaa", sum := "ecfaf5c44fe747d8ca38b01b0e7aeece214ab1edb74e52b7f64a044d91feb4f3", func := "recordlink/recordlinklaw21.PairsInclusion", spec := "pairsInclusion", unfollowed := true, recurses := true, plainKeys := false, apart := false, narrowed := true }
def PairsInclusionUptoSaid : Prop := pairsInclusionUptoRow.holds Try.pinned (OpenSpec.upto pairsInclusionSpec)

/-- 'recordlinklaw21.PairsSingle', WHERE WHAT IT READS IS OF BULK AT MOST 1048576: true; the input reads as it did. -/
def pairsSingleUptoRow : OpenClaim := { program := "ytejbklahkkjmhaa", sum := "ecfaf5c44fe747d8ca38b01b0e7aeece214ab1edb74e52b7f64a044d91feb4f3", func := "recordlink/recordlinklaw21.PairsSingle", spec := "pairsSingle", unfollowed := true, recurses := true, plainKeys := false, apart := false, narrowed := true }
def PairsSingleUptoSaid : Prop := pairsSingleUptoRow.holds Try.pinned (OpenSpec.upto pairsSingleSpec)

/-- 'recordlinklaw21.PairsExact', WHERE WHAT IT READS IS OF BULK AT MOST 1048576: true; the input reads as it did. -/
def pairsExactUptoRow : OpenClaim := { program := "ytejbklahkkjmhaa", sum := "ecfaf5c44fe747d8ca38b01b0e7aeece214ab1edb74e52b7f64a044d91feb4f3", func := "recordlink/recordlinklaw21.PairsExact", spec := "pairsExact", unfollowed := true, recurses := true, plainKeys := false, apart := false, narrowed := true }
def PairsExactUptoSaid : Prop := pairsExactUptoRow.holds Try.pinned (OpenSpec.upto pairsExactSpec)

/-- 'recordlinklaw21.PairsGrow', WHERE WHAT IT READS IS OF BULK AT MOST 1048576: true; the input reads as it did. -/
def pairsGrowUptoRow : OpenClaim := { program := "ytejbklahkkjmhaa", sum := "ecfaf5c44fe747d8ca38b01b0e7aeece214ab1edb74e52b7f64a044d91feb4f3", func := "recordlink/recordlinklaw21.PairsGrow", spec := "pairsGrow", unfollowed := true, recurses := true, plainKeys := false, apart := false, narrowed := true }
def PairsGrowUptoSaid : Prop := pairsGrowUptoRow.holds Try.pinned (OpenSpec.upto pairsGrowSpec)

end Rows
end Go.Proofs.Ytejbklahkkjmhaa
