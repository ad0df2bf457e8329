/-
  No cell of these rows narrows 'for every input' (looked for: loops, veiled, ifaces, maps, wideKeys, modest, calm, conditions, laid).
  DERIVED. THE GIVEN ROWS OF THIS SEAT. 8 by the template 'for every input the law returns true; each argument reads behind the call as it read before'; 0 by the template 'total and deterministic' (their statements: YtdmgmlmlielfbaaGreatTotals.lean).
  GIVEN WITH THE SEED: the statements are not yours to turn. If you find one false, say at which input.
  Laid BY PROGRAM, IN A SANDBOX (cutbox-rows.mjs): the forced cells as the released guide's own fill.sh prints them over the translation 1b95924552f3d6a6… (all of the seat's roots in one cut). By AI agents, Wed Nov 11 2026. No macro, syntax, notation, axiom, sorry.
-/
import Derived.Test.YtdmgmlmlielfbaaGreatChecked
import GoSem.Claim
import GoSem.ClaimJoined
import GoSem.ClaimMapViews
import Derived.JoinedTies
import Derived.KernelRfl
namespace Go.Proofs.YtdmgmlmlielfbaaGreat
/- THE CELL 'sum', in the pinned program and in every row, IS THE sha256 OF THE DUMP (.gsa) THAT YtdmgmlmlielfbaaGreatProg.lean LOADS. Nothing in Lean hashes anything: it is a label: what it is worth is what the hold of that sum in a sandbox is worth. -/
noncomputable def Tryz.pinned : Pinned := { name := "ytdmgmlmlielfbaagreat", sum := "1b95924552f3d6a62c9159632f8a9ced359c91c699c0bf9c93b141d23a6a1c72", checked := Tryz.checked }
namespace Rows
def none {H : Type} : Left H := { results := [], args := [] }

/-- 'recordlinklaw31.ClusterExact': WHATEVER THE INPUT: true; the input reads as it did. -/
def clusterExactSpec : ChangeSpec := { name := "clusterExact", fn := fun _ => fun
  | [d1, d2, d3, d4] => { results := [.lit (.bool true)], args := [d1, d2, d3, d4] }
  | _ => none }
def clusterExactRow : OpenClaim := { program := "ytdmgmlmlielfbaagreat", sum := "1b95924552f3d6a62c9159632f8a9ced359c91c699c0bf9c93b141d23a6a1c72", func := "recordlink/recordlinklaw31.ClusterExact", spec := "clusterExact", unfollowed := true, recurses := true, plainKeys := false, apart := false }
def ClusterExactSaid : Prop := clusterExactRow.holds Tryz.pinned (OpenSpec.ofChange clusterExactSpec)

/-- ITS FALSE NEIGHBOUR: 'it returns false'. Refute it at one input. -/
def clusterExactWrong : ChangeSpec := { name := "clusterExact", fn := fun _ => fun
  | [d1, d2, d3, d4] => { results := [.lit (.bool false)], args := [d1, d2, d3, d4] }
  | _ => none }
def ClusterExactWrongFalsely : Prop := clusterExactRow.holds Tryz.pinned (OpenSpec.ofChange clusterExactWrong)

/-- 'recordlinklaw31.ClusterValid': WHATEVER THE INPUT: true; the input reads as it did. -/
def clusterValidSpec : ChangeSpec := { name := "clusterValid", fn := fun _ => fun
  | [d] => { results := [.lit (.bool true)], args := [d] }
  | _ => none }
def clusterValidRow : OpenClaim := { program := "ytdmgmlmlielfbaagreat", sum := "1b95924552f3d6a62c9159632f8a9ced359c91c699c0bf9c93b141d23a6a1c72", func := "recordlink/recordlinklaw31.ClusterValid", spec := "clusterValid", unfollowed := true, recurses := true, plainKeys := false, apart := false }
def ClusterValidSaid : Prop := clusterValidRow.holds Tryz.pinned (OpenSpec.ofChange clusterValidSpec)

/-- ITS FALSE NEIGHBOUR: 'it returns false'. Refute it at one input. -/
def clusterValidWrong : ChangeSpec := { name := "clusterValid", fn := fun _ => fun
  | [d] => { results := [.lit (.bool false)], args := [d] }
  | _ => none }
def ClusterValidWrongFalsely : Prop := clusterValidRow.holds Tryz.pinned (OpenSpec.ofChange clusterValidWrong)

/-- 'recordlinklaw31.ClusterBest': WHATEVER THE INPUT: true; the input reads as it did. -/
def clusterBestSpec : ChangeSpec := { name := "clusterBest", fn := fun _ => fun
  | [d] => { results := [.lit (.bool true)], args := [d] }
  | _ => none }
def clusterBestRow : OpenClaim := { program := "ytdmgmlmlielfbaagreat", sum := "1b95924552f3d6a62c9159632f8a9ced359c91c699c0bf9c93b141d23a6a1c72", func := "recordlink/recordlinklaw31.ClusterBest", spec := "clusterBest", unfollowed := true, recurses := true, plainKeys := false, apart := false }
def ClusterBestSaid : Prop := clusterBestRow.holds Tryz.pinned (OpenSpec.ofChange clusterBestSpec)

/-- ITS FALSE NEIGHBOUR: 'it returns false'. Refute it at one input. -/
def clusterBestWrong : ChangeSpec := { name := "clusterBest", fn := fun _ => fun
  | [d] => { results := [.lit (.bool false)], args := [d] }
  | _ => none }
def ClusterBestWrongFalsely : Prop := clusterBestRow.holds Tryz.pinned (OpenSpec.ofChange clusterBestWrong)

/-- 'recordlinklaw31.ClusterApart': WHATEVER THE INPUT: true; the input reads as it did. -/
def clusterApartSpec : ChangeSpec := { name := "clusterApart", fn := fun _ => fun
  | [d] => { results := [.lit (.bool true)], args := [d] }
  | _ => none }
def clusterApartRow : OpenClaim := { program := "ytdmgmlmlielfbaagreat", sum := "1b95924552f3d6a62c9159632f8a9ced359c91c699c0bf9c93b141d23a6a1c72", func := "recordlink/recordlinklaw31.ClusterApart", spec := "clusterApart", unfollowed := true, recurses := true, plainKeys := false, apart := false }
def ClusterApartSaid : Prop := clusterApartRow.holds Tryz.pinned (OpenSpec.ofChange clusterApartSpec)

/-- ITS FALSE NEIGHBOUR: 'it returns false'. Refute it at one input. -/
def clusterApartWrong : ChangeSpec := { name := "clusterApart", fn := fun _ => fun
  | [d] => { results := [.lit (.bool false)], args := [d] }
  | _ => none }
def ClusterApartWrongFalsely : Prop := clusterApartRow.holds Tryz.pinned (OpenSpec.ofChange clusterApartWrong)

/-- 'recordlinklaw31.ClusterScales': WHATEVER THE INPUT: true; the input reads as it did. -/
def clusterScalesSpec : ChangeSpec := { name := "clusterScales", fn := fun _ => fun
  | [d1, d2] => { results := [.lit (.bool true)], args := [d1, d2] }
  | _ => none }
def clusterScalesRow : OpenClaim := { program := "ytdmgmlmlielfbaagreat", sum := "1b95924552f3d6a62c9159632f8a9ced359c91c699c0bf9c93b141d23a6a1c72", func := "recordlink/recordlinklaw31.ClusterScales", spec := "clusterScales", unfollowed := true, recurses := true, plainKeys := false, apart := false }
def ClusterScalesSaid : Prop := clusterScalesRow.holds Tryz.pinned (OpenSpec.ofChange clusterScalesSpec)

/-- ITS FALSE NEIGHBOUR: 'it returns false'. Refute it at one input. -/
def clusterScalesWrong : ChangeSpec := { name := "clusterScales", fn := fun _ => fun
  | [d1, d2] => { results := [.lit (.bool false)], args := [d1, d2] }
  | _ => none }
def ClusterScalesWrongFalsely : Prop := clusterScalesRow.holds Tryz.pinned (OpenSpec.ofChange clusterScalesWrong)

/-- 'recordlinklaw31.ClusterLarge': WHATEVER THE INPUT: true; the input reads as it did. -/
def clusterLargeSpec : ChangeSpec := { name := "clusterLarge", fn := fun _ => fun
  | [d] => { results := [.lit (.bool true)], args := [d] }
  | _ => none }
def clusterLargeRow : OpenClaim := { program := "ytdmgmlmlielfbaagreat", sum := "1b95924552f3d6a62c9159632f8a9ced359c91c699c0bf9c93b141d23a6a1c72", func := "recordlink/recordlinklaw31.ClusterLarge", spec := "clusterLarge", unfollowed := true, recurses := true, plainKeys := false, apart := false }
def ClusterLargeSaid : Prop := clusterLargeRow.holds Tryz.pinned (OpenSpec.ofChange clusterLargeSpec)

/-- ITS FALSE NEIGHBOUR: 'it returns false'. Refute it at one input. -/
def clusterLargeWrong : ChangeSpec := { name := "clusterLarge", fn := fun _ => fun
  | [d] => { results := [.lit (.bool false)], args := [d] }
  | _ => none }
def ClusterLargeWrongFalsely : Prop := clusterLargeRow.holds Tryz.pinned (OpenSpec.ofChange clusterLargeWrong)

/-- 'recordlinklaw31.ClusterParts': WHATEVER THE INPUT: true; the input reads as it did. -/
def clusterPartsSpec : ChangeSpec := { name := "clusterParts", fn := fun _ => fun
  | [d] => { results := [.lit (.bool true)], args := [d] }
  | _ => none }
def clusterPartsRow : OpenClaim := { program := "ytdmgmlmlielfbaagreat", sum := "1b95924552f3d6a62c9159632f8a9ced359c91c699c0bf9c93b141d23a6a1c72", func := "recordlink/recordlinklaw31.ClusterParts", spec := "clusterParts", unfollowed := true, recurses := true, plainKeys := false, apart := false }
def ClusterPartsSaid : Prop := clusterPartsRow.holds Tryz.pinned (OpenSpec.ofChange clusterPartsSpec)

/-- ITS FALSE NEIGHBOUR: 'it returns false'. Refute it at one input. -/
def clusterPartsWrong : ChangeSpec := { name := "clusterParts", fn := fun _ => fun
  | [d] => { results := [.lit (.bool false)], args := [d] }
  | _ => none }
def ClusterPartsWrongFalsely : Prop := clusterPartsRow.holds Tryz.pinned (OpenSpec.ofChange clusterPartsWrong)

/-- 'recordlinklaw31.ClusterPairs': WHATEVER THE INPUT: true; the input reads as it did. -/
def clusterPairsSpec : ChangeSpec := { name := "clusterPairs", fn := fun _ => fun
  | [d] => { results := [.lit (.bool true)], args := [d] }
  | _ => none }
def clusterPairsRow : OpenClaim := { program := "ytdmgmlmlielfbaagreat", sum := "1b95924552f3d6a62c9159632f8a9ced359c91c699c0bf9c93b141d23a6a1c72", func := "recordlink/recordlinklaw31.ClusterPairs", spec := "clusterPairs", unfollowed := true, recurses := true, plainKeys := false, apart := false }
def ClusterPairsSaid : Prop := clusterPairsRow.holds Tryz.pinned (OpenSpec.ofChange clusterPairsSpec)

/-- ITS FALSE NEIGHBOUR: 'it returns false'. Refute it at one input. -/
def clusterPairsWrong : ChangeSpec := { name := "clusterPairs", fn := fun _ => fun
  | [d] => { results := [.lit (.bool false)], args := [d] }
  | _ => none }
def ClusterPairsWrongFalsely : Prop := clusterPairsRow.holds Tryz.pinned (OpenSpec.ofChange clusterPairsWrong)

/- THE SECOND FORM. 'bulk': how many values and letters a reading holds, each counted each time it is reached (what is shared counts as often as it is met; a slice's spare places count too). A statement '..UptoSaid' is the law's where the arguments, and the package variables that the reading takes, are together of bulk at most 1048576: NARROWER than '..Said'. Prove '..Said' where nothing that the law and all that it calls make is longer than what came in: it says more and counts as full. Else prove '..UptoSaid'. A law counts once. -/
mutual
def uptoBulk {H : Type} : DataW H → Nat
  | .lit (.string bytes) => bytes.length + 1
  | .lit _ => 1
  | .nil => 1
  | .ptr d => uptoBulk d + 1
  | .slice elems spare => uptoBulkAll elems + uptoBulkAll spare + 1
  | .agg parts => uptoBulkAll parts + 1
  | .iface _ d => uptoBulk d + 1
  | .map entries => uptoBulkEntries entries + 1
  | .held _ => 1
def uptoBulkAll {H : Type} : List (DataW H) → Nat
  | [] => 0
  | d :: r => uptoBulk d + uptoBulkAll r
def uptoBulkEntries {H : Type} : List (Lit × DataW H) → Nat
  | [] => 0
  | x :: r => uptoBulkEntry x + uptoBulkEntries r
def uptoBulkEntry {H : Type} : Lit × DataW H → Nat
  | (.string bytes, d) => bytes.length + uptoBulk d + 1
  | (_, d) => uptoBulk d + 1
 end
def uptoSmall : (H : Type) → List (DataW H) → Bool := fun _ ds => decide (uptoBulkAll ds ≤ 1048576)
def OpenSpec.upto (s : _root_.Go.ChangeSpec) : _root_.Go.OpenSpec := { _root_.Go.OpenSpec.ofChange s with cond := some uptoSmall }

/-- 'recordlinklaw31.ClusterExact', WHERE WHAT IT READS IS OF BULK AT MOST 1048576: true; the input reads as it did. -/
def clusterExactUptoRow : OpenClaim := { program := "ytdmgmlmlielfbaagreat", sum := "1b95924552f3d6a62c9159632f8a9ced359c91c699c0bf9c93b141d23a6a1c72", func := "recordlink/recordlinklaw31.ClusterExact", spec := "clusterExact", unfollowed := true, recurses := true, plainKeys := false, apart := false, narrowed := true }
def ClusterExactUptoSaid : Prop := clusterExactUptoRow.holds Tryz.pinned (OpenSpec.upto clusterExactSpec)

/-- 'recordlinklaw31.ClusterValid', WHERE WHAT IT READS IS OF BULK AT MOST 1048576: true; the input reads as it did. -/
def clusterValidUptoRow : OpenClaim := { program := "ytdmgmlmlielfbaagreat", sum := "1b95924552f3d6a62c9159632f8a9ced359c91c699c0bf9c93b141d23a6a1c72", func := "recordlink/recordlinklaw31.ClusterValid", spec := "clusterValid", unfollowed := true, recurses := true, plainKeys := false, apart := false, narrowed := true }
def ClusterValidUptoSaid : Prop := clusterValidUptoRow.holds Tryz.pinned (OpenSpec.upto clusterValidSpec)

/-- 'recordlinklaw31.ClusterBest', WHERE WHAT IT READS IS OF BULK AT MOST 1048576: true; the input reads as it did. -/
def clusterBestUptoRow : OpenClaim := { program := "ytdmgmlmlielfbaagreat", sum := "1b95924552f3d6a62c9159632f8a9ced359c91c699c0bf9c93b141d23a6a1c72", func := "recordlink/recordlinklaw31.ClusterBest", spec := "clusterBest", unfollowed := true, recurses := true, plainKeys := false, apart := false, narrowed := true }
def ClusterBestUptoSaid : Prop := clusterBestUptoRow.holds Tryz.pinned (OpenSpec.upto clusterBestSpec)

/-- 'recordlinklaw31.ClusterApart', WHERE WHAT IT READS IS OF BULK AT MOST 1048576: true; the input reads as it did. -/
def clusterApartUptoRow : OpenClaim := { program := "ytdmgmlmlielfbaagreat", sum := "1b95924552f3d6a62c9159632f8a9ced359c91c699c0bf9c93b141d23a6a1c72", func := "recordlink/recordlinklaw31.ClusterApart", spec := "clusterApart", unfollowed := true, recurses := true, plainKeys := false, apart := false, narrowed := true }
def ClusterApartUptoSaid : Prop := clusterApartUptoRow.holds Tryz.pinned (OpenSpec.upto clusterApartSpec)

/-- 'recordlinklaw31.ClusterScales', WHERE WHAT IT READS IS OF BULK AT MOST 1048576: true; the input reads as it did. -/
def clusterScalesUptoRow : OpenClaim := { program := "ytdmgmlmlielfbaagreat", sum := "1b95924552f3d6a62c9159632f8a9ced359c91c699c0bf9c93b141d23a6a1c72", func := "recordlink/recordlinklaw31.ClusterScales", spec := "clusterScales", unfollowed := true, recurses := true, plainKeys := false, apart := false, narrowed := true }
def ClusterScalesUptoSaid : Prop := clusterScalesUptoRow.holds Tryz.pinned (OpenSpec.upto clusterScalesSpec)

/-- 'recordlinklaw31.ClusterLarge', WHERE WHAT IT READS IS OF BULK AT MOST 1048576: true; the input reads as it did. -/
def clusterLargeUptoRow : OpenClaim := { program := "ytdmgmlmlielfbaagreat", sum := "1b95924552f3d6a62c9159632f8a9ced359c91c699c0bf9c93b141d23a6a1c72", func := "recordlink/recordlinklaw31.ClusterLarge", spec := "clusterLarge", unfollowed := true, recurses := true, plainKeys := false, apart := false, narrowed := true }
def ClusterLargeUptoSaid : Prop := clusterLargeUptoRow.holds Tryz.pinned (OpenSpec.upto clusterLargeSpec)

/-- 'recordlinklaw31.ClusterParts', WHERE WHAT IT READS IS OF BULK AT MOST 1048576: true; the input reads as it did. -/
def clusterPartsUptoRow : OpenClaim := { program := "ytdmgmlmlielfbaagreat", sum := "1b95924552f3d6a62c9159632f8a9ced359c91c699c0bf9c93b141d23a6a1c72", func := "recordlink/recordlinklaw31.ClusterParts", spec := "clusterParts", unfollowed := true, recurses := true, plainKeys := false, apart := false, narrowed := true }
def ClusterPartsUptoSaid : Prop := clusterPartsUptoRow.holds Tryz.pinned (OpenSpec.upto clusterPartsSpec)

/-- 'recordlinklaw31.ClusterPairs', WHERE WHAT IT READS IS OF BULK AT MOST 1048576: true; the input reads as it did. -/
def clusterPairsUptoRow : OpenClaim := { program := "ytdmgmlmlielfbaagreat", sum := "1b95924552f3d6a62c9159632f8a9ced359c91c699c0bf9c93b141d23a6a1c72", func := "recordlink/recordlinklaw31.ClusterPairs", spec := "clusterPairs", unfollowed := true, recurses := true, plainKeys := false, apart := false, narrowed := true }
def ClusterPairsUptoSaid : Prop := clusterPairsUptoRow.holds Tryz.pinned (OpenSpec.upto clusterPairsSpec)

end Rows
end Go.Proofs.YtdmgmlmlielfbaaGreat
