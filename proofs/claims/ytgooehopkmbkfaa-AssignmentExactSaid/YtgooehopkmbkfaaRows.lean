/-
  No cell of these rows narrows 'for every input' (looked for: loops, veiled, ifaces, maps, wideKeys, modest, calm, conditions, laid).
  DERIVED. THE GIVEN ROWS OF THIS SEAT. 7 by the template 'for every input the law returns true; each argument reads behind the call as it read before'; 0 by the template 'total and deterministic' (their statements: YtgooehopkmbkfaaTotals.lean).
  GIVEN WITH THE SEED: the statements are not yours to turn. If you find one false, say at which input.
  Laid BY PROGRAM, IN A SANDBOX (cutbox-rows.mjs): the forced cells as the released guide's own fill.sh prints them over the translation e63446ab0c6c4166… (all of the seat's roots in one cut). By AI agents, Wed Nov 11 2026. No macro, syntax, notation, axiom, sorry.
-/
import Derived.Test.YtgooehopkmbkfaaChecked
import GoSem.Claim
import GoSem.ClaimJoined
import GoSem.ClaimMapViews
import Derived.JoinedTies
import Derived.KernelRfl
namespace Go.Proofs.Ytgooehopkmbkfaa
/- THE CELL 'sum', in the pinned program and in every row, IS THE sha256 OF THE DUMP (.gsa) THAT YtgooehopkmbkfaaProg.lean LOADS. Nothing in Lean hashes anything: it is a label: what it is worth is what the hold of that sum in a sandbox is worth. -/
noncomputable def Try.pinned : Pinned := { name := "ytgooehopkmbkfaa", sum := "e63446ab0c6c41660e9d1ac33c194d7e8afb960f2a6497849685a481e196079c", checked := Try.checked }
namespace Rows
def none {H : Type} : Left H := { results := [], args := [] }

/-- 'recordlinklaw28.AssignmentExact': WHATEVER THE INPUT: true; the input reads as it did. -/
def assignmentExactSpec : ChangeSpec := { name := "assignmentExact", fn := fun _ => fun
  | [d1, d2, d3, d4, d5, d6, d7] => { results := [.lit (.bool true)], args := [d1, d2, d3, d4, d5, d6, d7] }
  | _ => none }
def assignmentExactRow : OpenClaim := { program := "ytgooehopkmbkfaa", sum := "e63446ab0c6c41660e9d1ac33c194d7e8afb960f2a6497849685a481e196079c", func := "recordlink/recordlinklaw28.AssignmentExact", spec := "assignmentExact", unfollowed := true, recurses := true, plainKeys := false, apart := false }
def AssignmentExactSaid : Prop := assignmentExactRow.holds Try.pinned (OpenSpec.ofChange assignmentExactSpec)

/-- ITS FALSE NEIGHBOUR: 'it returns false'. Refute it at one input. -/
def assignmentExactWrong : ChangeSpec := { name := "assignmentExact", fn := fun _ => fun
  | [d1, d2, d3, d4, d5, d6, d7] => { results := [.lit (.bool false)], args := [d1, d2, d3, d4, d5, d6, d7] }
  | _ => none }
def AssignmentExactWrongFalsely : Prop := assignmentExactRow.holds Try.pinned (OpenSpec.ofChange assignmentExactWrong)

/-- 'recordlinklaw28.AssignmentProves': WHATEVER THE INPUT: true; the input reads as it did. -/
def assignmentProvesSpec : ChangeSpec := { name := "assignmentProves", fn := fun _ => fun
  | [d] => { results := [.lit (.bool true)], args := [d] }
  | _ => none }
def assignmentProvesRow : OpenClaim := { program := "ytgooehopkmbkfaa", sum := "e63446ab0c6c41660e9d1ac33c194d7e8afb960f2a6497849685a481e196079c", func := "recordlink/recordlinklaw28.AssignmentProves", spec := "assignmentProves", unfollowed := true, recurses := true, plainKeys := false, apart := false }
def AssignmentProvesSaid : Prop := assignmentProvesRow.holds Try.pinned (OpenSpec.ofChange assignmentProvesSpec)

/-- ITS FALSE NEIGHBOUR: 'it returns false'. Refute it at one input. -/
def assignmentProvesWrong : ChangeSpec := { name := "assignmentProves", fn := fun _ => fun
  | [d] => { results := [.lit (.bool false)], args := [d] }
  | _ => none }
def AssignmentProvesWrongFalsely : Prop := assignmentProvesRow.holds Try.pinned (OpenSpec.ofChange assignmentProvesWrong)

/-- 'recordlinklaw28.AssignmentBest': WHATEVER THE INPUT: true; the input reads as it did. -/
def assignmentBestSpec : ChangeSpec := { name := "assignmentBest", fn := fun _ => fun
  | [d] => { results := [.lit (.bool true)], args := [d] }
  | _ => none }
def assignmentBestRow : OpenClaim := { program := "ytgooehopkmbkfaa", sum := "e63446ab0c6c41660e9d1ac33c194d7e8afb960f2a6497849685a481e196079c", func := "recordlink/recordlinklaw28.AssignmentBest", spec := "assignmentBest", unfollowed := true, recurses := true, plainKeys := false, apart := false }
def AssignmentBestSaid : Prop := assignmentBestRow.holds Try.pinned (OpenSpec.ofChange assignmentBestSpec)

/-- ITS FALSE NEIGHBOUR: 'it returns false'. Refute it at one input. -/
def assignmentBestWrong : ChangeSpec := { name := "assignmentBest", fn := fun _ => fun
  | [d] => { results := [.lit (.bool false)], args := [d] }
  | _ => none }
def AssignmentBestWrongFalsely : Prop := assignmentBestRow.holds Try.pinned (OpenSpec.ofChange assignmentBestWrong)

/-- 'recordlinklaw28.AssignmentGrows': WHATEVER THE INPUT: true; the input reads as it did. -/
def assignmentGrowsSpec : ChangeSpec := { name := "assignmentGrows", fn := fun _ => fun
  | [d1, d2] => { results := [.lit (.bool true)], args := [d1, d2] }
  | _ => none }
def assignmentGrowsRow : OpenClaim := { program := "ytgooehopkmbkfaa", sum := "e63446ab0c6c41660e9d1ac33c194d7e8afb960f2a6497849685a481e196079c", func := "recordlink/recordlinklaw28.AssignmentGrows", spec := "assignmentGrows", unfollowed := true, recurses := true, plainKeys := false, apart := false }
def AssignmentGrowsSaid : Prop := assignmentGrowsRow.holds Try.pinned (OpenSpec.ofChange assignmentGrowsSpec)

/-- ITS FALSE NEIGHBOUR: 'it returns false'. Refute it at one input. -/
def assignmentGrowsWrong : ChangeSpec := { name := "assignmentGrows", fn := fun _ => fun
  | [d1, d2] => { results := [.lit (.bool false)], args := [d1, d2] }
  | _ => none }
def AssignmentGrowsWrongFalsely : Prop := assignmentGrowsRow.holds Try.pinned (OpenSpec.ofChange assignmentGrowsWrong)

/-- 'recordlinklaw28.AssignmentTurns': WHATEVER THE INPUT: true; the input reads as it did. -/
def assignmentTurnsSpec : ChangeSpec := { name := "assignmentTurns", fn := fun _ => fun
  | [d] => { results := [.lit (.bool true)], args := [d] }
  | _ => none }
def assignmentTurnsRow : OpenClaim := { program := "ytgooehopkmbkfaa", sum := "e63446ab0c6c41660e9d1ac33c194d7e8afb960f2a6497849685a481e196079c", func := "recordlink/recordlinklaw28.AssignmentTurns", spec := "assignmentTurns", unfollowed := true, recurses := true, plainKeys := false, apart := false }
def AssignmentTurnsSaid : Prop := assignmentTurnsRow.holds Try.pinned (OpenSpec.ofChange assignmentTurnsSpec)

/-- ITS FALSE NEIGHBOUR: 'it returns false'. Refute it at one input. -/
def assignmentTurnsWrong : ChangeSpec := { name := "assignmentTurns", fn := fun _ => fun
  | [d] => { results := [.lit (.bool false)], args := [d] }
  | _ => none }
def AssignmentTurnsWrongFalsely : Prop := assignmentTurnsRow.holds Try.pinned (OpenSpec.ofChange assignmentTurnsWrong)

/-- 'recordlinklaw28.AssignmentParts': WHATEVER THE INPUT: true; the input reads as it did. -/
def assignmentPartsSpec : ChangeSpec := { name := "assignmentParts", fn := fun _ => fun
  | [d] => { results := [.lit (.bool true)], args := [d] }
  | _ => none }
def assignmentPartsRow : OpenClaim := { program := "ytgooehopkmbkfaa", sum := "e63446ab0c6c41660e9d1ac33c194d7e8afb960f2a6497849685a481e196079c", func := "recordlink/recordlinklaw28.AssignmentParts", spec := "assignmentParts", unfollowed := true, recurses := true, plainKeys := false, apart := false }
def AssignmentPartsSaid : Prop := assignmentPartsRow.holds Try.pinned (OpenSpec.ofChange assignmentPartsSpec)

/-- ITS FALSE NEIGHBOUR: 'it returns false'. Refute it at one input. -/
def assignmentPartsWrong : ChangeSpec := { name := "assignmentParts", fn := fun _ => fun
  | [d] => { results := [.lit (.bool false)], args := [d] }
  | _ => none }
def AssignmentPartsWrongFalsely : Prop := assignmentPartsRow.holds Try.pinned (OpenSpec.ofChange assignmentPartsWrong)

/-- 'recordlinklaw28.AssignmentLone': WHATEVER THE INPUT: true; the input reads as it did. -/
def assignmentLoneSpec : ChangeSpec := { name := "assignmentLone", fn := fun _ => fun
  | [d] => { results := [.lit (.bool true)], args := [d] }
  | _ => none }
def assignmentLoneRow : OpenClaim := { program := "ytgooehopkmbkfaa", sum := "e63446ab0c6c41660e9d1ac33c194d7e8afb960f2a6497849685a481e196079c", func := "recordlink/recordlinklaw28.AssignmentLone", spec := "assignmentLone", unfollowed := true, recurses := true, plainKeys := false, apart := false }
def AssignmentLoneSaid : Prop := assignmentLoneRow.holds Try.pinned (OpenSpec.ofChange assignmentLoneSpec)

/-- ITS FALSE NEIGHBOUR: 'it returns false'. Refute it at one input. -/
def assignmentLoneWrong : ChangeSpec := { name := "assignmentLone", fn := fun _ => fun
  | [d] => { results := [.lit (.bool false)], args := [d] }
  | _ => none }
def AssignmentLoneWrongFalsely : Prop := assignmentLoneRow.holds Try.pinned (OpenSpec.ofChange assignmentLoneWrong)

/- THE SECOND FORM. 'bulk': how many values and letters a reading holds, each counted each time it is reached (what is shared counts as often as it is met; a slice's spare places count too). A statement '..UptoSaid' is the law's where the arguments, and the package variables that the reading takes, are together of bulk at most 1048576: NARROWER than '..Said'. Prove '..Said' where nothing that the law and all that it calls make is longer than what came in: it says more and counts as full. Else prove '..UptoSaid'. A law counts once. -/
mutual
def uptoBulk {H : Type} : DataW H → Nat
  | .lit (.string bytes) => bytes.length + 1
  | .lit _ => 1
  | .nil => 1
  | .ptr d => uptoBulk d + 1
  | .slice elems spare => uptoBulkAll elems + uptoBulkAll spare + 1
  | .agg parts => uptoBulkAll parts + 1
  | .iface _ d => uptoBulk d + 1
  | .map entries => uptoBulkEntries entries + 1
  | .held _ => 1
def uptoBulkAll {H : Type} : List (DataW H) → Nat
  | [] => 0
  | d :: r => uptoBulk d + uptoBulkAll r
def uptoBulkEntries {H : Type} : List (Lit × DataW H) → Nat
  | [] => 0
  | x :: r => uptoBulkEntry x + uptoBulkEntries r
def uptoBulkEntry {H : Type} : Lit × DataW H → Nat
  | (.string bytes, d) => bytes.length + uptoBulk d + 1
  | (_, d) => uptoBulk d + 1
 end
def uptoSmall : (H : Type) → List (DataW H) → Bool := fun _ ds => decide (uptoBulkAll ds ≤ 1048576)
def OpenSpec.upto (s : _root_.Go.ChangeSpec) : _root_.Go.OpenSpec := { _root_.Go.OpenSpec.ofChange s with cond := some uptoSmall }

/-- 'recordlinklaw28.AssignmentExact', WHERE WHAT IT READS IS OF BULK AT MOST 1048576: true; the input reads as it did. -/
def assignmentExactUptoRow : OpenClaim := { program := "ytgooehopkmbkfaa", sum := "e63446ab0c6c41660e9d1ac33c194d7e8afb960f2a6497849685a481e196079c", func := "recordlink/recordlinklaw28.AssignmentExact", spec := "assignmentExact", unfollowed := true, recurses := true, plainKeys := false, apart := false, narrowed := true }
def AssignmentExactUptoSaid : Prop := assignmentExactUptoRow.holds Try.pinned (OpenSpec.upto assignmentExactSpec)

/-- 'recordlinklaw28.AssignmentProves', WHERE WHAT IT READS IS OF BULK AT MOST 1048576: true; the input reads as it did. -/
def assignmentProvesUptoRow : OpenClaim := { program := "ytgooehopkmbkfaa", sum := "e63446ab0c6c41660e9d1ac33c194d7e8afb960f2a6497849685a481e196079c", func := "recordlink/recordlinklaw28.AssignmentProves", spec := "assignmentProves", unfollowed := true, recurses := true, plainKeys := false, apart := false, narrowed := true }
def AssignmentProvesUptoSaid : Prop := assignmentProvesUptoRow.holds Try.pinned (OpenSpec.upto assignmentProvesSpec)

/-- 'recordlinklaw28.AssignmentBest', WHERE WHAT IT READS IS OF BULK AT MOST 1048576: true; the input reads as it did. -/
def assignmentBestUptoRow : OpenClaim := { program := "ytgooehopkmbkfaa", sum := "e63446ab0c6c41660e9d1ac33c194d7e8afb960f2a6497849685a481e196079c", func := "recordlink/recordlinklaw28.AssignmentBest", spec := "assignmentBest", unfollowed := true, recurses := true, plainKeys := false, apart := false, narrowed := true }
def AssignmentBestUptoSaid : Prop := assignmentBestUptoRow.holds Try.pinned (OpenSpec.upto assignmentBestSpec)

/-- 'recordlinklaw28.AssignmentGrows', WHERE WHAT IT READS IS OF BULK AT MOST 1048576: true; the input reads as it did. -/
def assignmentGrowsUptoRow : OpenClaim := { program := "ytgooehopkmbkfaa", sum := "e63446ab0c6c41660e9d1ac33c194d7e8afb960f2a6497849685a481e196079c", func := "recordlink/recordlinklaw28.AssignmentGrows", spec := "assignmentGrows", unfollowed := true, recurses := true, plainKeys := false, apart := false, narrowed := true }
def AssignmentGrowsUptoSaid : Prop := assignmentGrowsUptoRow.holds Try.pinned (OpenSpec.upto assignmentGrowsSpec)

/-- 'recordlinklaw28.AssignmentTurns', WHERE WHAT IT READS IS OF BULK AT MOST 1048576: true; the input reads as it did. -/
def assignmentTurnsUptoRow : OpenClaim := { program := "ytgooehopkmbkfaa", sum := "e63446ab0c6c41660e9d1ac33c194d7e8afb960f2a6497849685a481e196079c", func := "recordlink/recordlinklaw28.AssignmentTurns", spec := "assignmentTurns", unfollowed := true, recurses := true, plainKeys := false, apart := false, narrowed := true }
def AssignmentTurnsUptoSaid : Prop := assignmentTurnsUptoRow.holds Try.pinned (OpenSpec.upto assignmentTurnsSpec)

/-- 'recordlinklaw28.AssignmentParts', WHERE WHAT IT READS IS OF BULK AT MOST 1048576: true; the input reads as it did. -/
def assignmentPartsUptoRow : OpenClaim := { program := "ytgooehopkmbkfaa", sum := "e63446ab0c6c41660e9d1ac33c194d7e8afb960f2a6497849685a481e196079c", func := "recordlink/recordlinklaw28.AssignmentParts", spec := "assignmentParts", unfollowed := true, recurses := true, plainKeys := false, apart := false, narrowed := true }
def AssignmentPartsUptoSaid : Prop := assignmentPartsUptoRow.holds Try.pinned (OpenSpec.upto assignmentPartsSpec)

/-- 'recordlinklaw28.AssignmentLone', WHERE WHAT IT READS IS OF BULK AT MOST 1048576: true; the input reads as it did. -/
def assignmentLoneUptoRow : OpenClaim := { program := "ytgooehopkmbkfaa", sum := "e63446ab0c6c41660e9d1ac33c194d7e8afb960f2a6497849685a481e196079c", func := "recordlink/recordlinklaw28.AssignmentLone", spec := "assignmentLone", unfollowed := true, recurses := true, plainKeys := false, apart := false, narrowed := true }
def AssignmentLoneUptoSaid : Prop := assignmentLoneUptoRow.holds Try.pinned (OpenSpec.upto assignmentLoneSpec)

end Rows
end Go.Proofs.Ytgooehopkmbkfaa
