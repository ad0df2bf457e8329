/-
  No cell of these rows narrows 'for every input' (looked for: loops, veiled, ifaces, maps, wideKeys, modest, calm, conditions, laid).
  DERIVED. THE GIVEN ROWS OF THIS SEAT. 6 by the template 'for every input the law returns true; each argument reads behind the call as it read before'; 0 by the template 'total and deterministic' (their statements: YtmdhggfehknjjaaGreatTotals.lean).
  GIVEN WITH THE SEED: the statements are not yours to turn. If you find one false, say at which input.
  Laid BY PROGRAM, IN A SANDBOX (cutbox-rows.mjs): the forced cells as the released guide's own fill.sh prints them over the translation 350aa9bde9ebd62e… (all of the seat's roots in one cut). By AI agents, Wed Nov 11 2026. No macro, syntax, notation, axiom, sorry.
-/
import Derived.Test.YtmdhggfehknjjaaGreatChecked
import GoSem.Claim
import GoSem.ClaimJoined
import GoSem.ClaimMapViews
import Derived.JoinedTies
import Derived.KernelRfl
namespace Go.Proofs.YtmdhggfehknjjaaGreat
/- THE CELL 'sum', in the pinned program and in every row, IS THE sha256 OF THE DUMP (.gsa) THAT YtmdhggfehknjjaaGreatProg.lean LOADS. Nothing in Lean hashes anything: it is a label: what it is worth is what the hold of that sum in a sandbox is worth. -/
noncomputable def Tryz.pinned : Pinned := { name := "ytmdhggfehknjjaagreat", sum := "350aa9bde9ebd62ec411493f9dad4bf4d73e93c8e1d563b3f40805f138ce4fbb", checked := Tryz.checked }
namespace Rows
def none {H : Type} : Left H := { results := [], args := [] }

/-- 'recordlinklaw37.ResolveExact': WHATEVER THE INPUT: true; the input reads as it did. -/
def resolveExactSpec : ChangeSpec := { name := "resolveExact", fn := fun _ => fun
  | [d1, d2, d3, d4, d5] => { results := [.lit (.bool true)], args := [d1, d2, d3, d4, d5] }
  | _ => none }
def resolveExactRow : OpenClaim := { program := "ytmdhggfehknjjaagreat", sum := "350aa9bde9ebd62ec411493f9dad4bf4d73e93c8e1d563b3f40805f138ce4fbb", func := "recordlink/recordlinklaw37.ResolveExact", spec := "resolveExact", unfollowed := true, recurses := true, plainKeys := false, apart := false }
def ResolveExactSaid : Prop := resolveExactRow.holds Tryz.pinned (OpenSpec.ofChange resolveExactSpec)

/-- ITS FALSE NEIGHBOUR: 'it returns false'. Refute it at one input. -/
def resolveExactWrong : ChangeSpec := { name := "resolveExact", fn := fun _ => fun
  | [d1, d2, d3, d4, d5] => { results := [.lit (.bool false)], args := [d1, d2, d3, d4, d5] }
  | _ => none }
def ResolveExactWrongFalsely : Prop := resolveExactRow.holds Tryz.pinned (OpenSpec.ofChange resolveExactWrong)

/-- 'recordlinklaw37.ResolveAgain': WHATEVER THE INPUT: true; the input reads as it did. -/
def resolveAgainSpec : ChangeSpec := { name := "resolveAgain", fn := fun _ => fun
  | [d] => { results := [.lit (.bool true)], args := [d] }
  | _ => none }
def resolveAgainRow : OpenClaim := { program := "ytmdhggfehknjjaagreat", sum := "350aa9bde9ebd62ec411493f9dad4bf4d73e93c8e1d563b3f40805f138ce4fbb", func := "recordlink/recordlinklaw37.ResolveAgain", spec := "resolveAgain", unfollowed := true, recurses := true, plainKeys := false, apart := false }
def ResolveAgainSaid : Prop := resolveAgainRow.holds Tryz.pinned (OpenSpec.ofChange resolveAgainSpec)

/-- ITS FALSE NEIGHBOUR: 'it returns false'. Refute it at one input. -/
def resolveAgainWrong : ChangeSpec := { name := "resolveAgain", fn := fun _ => fun
  | [d] => { results := [.lit (.bool false)], args := [d] }
  | _ => none }
def ResolveAgainWrongFalsely : Prop := resolveAgainRow.holds Tryz.pinned (OpenSpec.ofChange resolveAgainWrong)

/-- 'recordlinklaw37.ResolveTouched': WHATEVER THE INPUT: true; the input reads as it did. -/
def resolveTouchedSpec : ChangeSpec := { name := "resolveTouched", fn := fun _ => fun
  | [d] => { results := [.lit (.bool true)], args := [d] }
  | _ => none }
def resolveTouchedRow : OpenClaim := { program := "ytmdhggfehknjjaagreat", sum := "350aa9bde9ebd62ec411493f9dad4bf4d73e93c8e1d563b3f40805f138ce4fbb", func := "recordlink/recordlinklaw37.ResolveTouched", spec := "resolveTouched", unfollowed := true, recurses := true, plainKeys := false, apart := false }
def ResolveTouchedSaid : Prop := resolveTouchedRow.holds Tryz.pinned (OpenSpec.ofChange resolveTouchedSpec)

/-- ITS FALSE NEIGHBOUR: 'it returns false'. Refute it at one input. -/
def resolveTouchedWrong : ChangeSpec := { name := "resolveTouched", fn := fun _ => fun
  | [d] => { results := [.lit (.bool false)], args := [d] }
  | _ => none }
def ResolveTouchedWrongFalsely : Prop := resolveTouchedRow.holds Tryz.pinned (OpenSpec.ofChange resolveTouchedWrong)

/-- 'recordlinklaw37.ResolveFull': WHATEVER THE INPUT: true; the input reads as it did. -/
def resolveFullSpec : ChangeSpec := { name := "resolveFull", fn := fun _ => fun
  | [d1, d2, d3, d4, d5] => { results := [.lit (.bool true)], args := [d1, d2, d3, d4, d5] }
  | _ => none }
def resolveFullRow : OpenClaim := { program := "ytmdhggfehknjjaagreat", sum := "350aa9bde9ebd62ec411493f9dad4bf4d73e93c8e1d563b3f40805f138ce4fbb", func := "recordlink/recordlinklaw37.ResolveFull", spec := "resolveFull", unfollowed := true, recurses := true, plainKeys := false, apart := false }
def ResolveFullSaid : Prop := resolveFullRow.holds Tryz.pinned (OpenSpec.ofChange resolveFullSpec)

/-- ITS FALSE NEIGHBOUR: 'it returns false'. Refute it at one input. -/
def resolveFullWrong : ChangeSpec := { name := "resolveFull", fn := fun _ => fun
  | [d1, d2, d3, d4, d5] => { results := [.lit (.bool false)], args := [d1, d2, d3, d4, d5] }
  | _ => none }
def ResolveFullWrongFalsely : Prop := resolveFullRow.holds Tryz.pinned (OpenSpec.ofChange resolveFullWrong)

/-- 'recordlinklaw37.ResolveRecord': WHATEVER THE INPUT: true; the input reads as it did. -/
def resolveRecordSpec : ChangeSpec := { name := "resolveRecord", fn := fun _ => fun
  | [d] => { results := [.lit (.bool true)], args := [d] }
  | _ => none }
def resolveRecordRow : OpenClaim := { program := "ytmdhggfehknjjaagreat", sum := "350aa9bde9ebd62ec411493f9dad4bf4d73e93c8e1d563b3f40805f138ce4fbb", func := "recordlink/recordlinklaw37.ResolveRecord", spec := "resolveRecord", unfollowed := true, recurses := true, plainKeys := false, apart := false }
def ResolveRecordSaid : Prop := resolveRecordRow.holds Tryz.pinned (OpenSpec.ofChange resolveRecordSpec)

/-- ITS FALSE NEIGHBOUR: 'it returns false'. Refute it at one input. -/
def resolveRecordWrong : ChangeSpec := { name := "resolveRecord", fn := fun _ => fun
  | [d] => { results := [.lit (.bool false)], args := [d] }
  | _ => none }
def ResolveRecordWrongFalsely : Prop := resolveRecordRow.holds Tryz.pinned (OpenSpec.ofChange resolveRecordWrong)

/-- 'recordlinklaw37.ResolveWithdrawn': WHATEVER THE INPUT: true; the input reads as it did. -/
def resolveWithdrawnSpec : ChangeSpec := { name := "resolveWithdrawn", fn := fun _ => fun
  | [d] => { results := [.lit (.bool true)], args := [d] }
  | _ => none }
def resolveWithdrawnRow : OpenClaim := { program := "ytmdhggfehknjjaagreat", sum := "350aa9bde9ebd62ec411493f9dad4bf4d73e93c8e1d563b3f40805f138ce4fbb", func := "recordlink/recordlinklaw37.ResolveWithdrawn", spec := "resolveWithdrawn", unfollowed := true, recurses := true, plainKeys := false, apart := false }
def ResolveWithdrawnSaid : Prop := resolveWithdrawnRow.holds Tryz.pinned (OpenSpec.ofChange resolveWithdrawnSpec)

/-- ITS FALSE NEIGHBOUR: 'it returns false'. Refute it at one input. -/
def resolveWithdrawnWrong : ChangeSpec := { name := "resolveWithdrawn", fn := fun _ => fun
  | [d] => { results := [.lit (.bool false)], args := [d] }
  | _ => none }
def ResolveWithdrawnWrongFalsely : Prop := resolveWithdrawnRow.holds Tryz.pinned (OpenSpec.ofChange resolveWithdrawnWrong)

/- THE SECOND FORM. 'bulk': how many values and letters a reading holds, each counted each time it is reached (what is shared counts as often as it is met; a slice's spare places count too). A statement '..UptoSaid' is the law's where the arguments, and the package variables that the reading takes, are together of bulk at most 1048576: NARROWER than '..Said'. Prove '..Said' where nothing that the law and all that it calls make is longer than what came in: it says more and counts as full. Else prove '..UptoSaid'. A law counts once. -/
mutual
def uptoBulk {H : Type} : DataW H → Nat
  | .lit (.string bytes) => bytes.length + 1
  | .lit _ => 1
  | .nil => 1
  | .ptr d => uptoBulk d + 1
  | .slice elems spare => uptoBulkAll elems + uptoBulkAll spare + 1
  | .agg parts => uptoBulkAll parts + 1
  | .iface _ d => uptoBulk d + 1
  | .map entries => uptoBulkEntries entries + 1
  | .held _ => 1
def uptoBulkAll {H : Type} : List (DataW H) → Nat
  | [] => 0
  | d :: r => uptoBulk d + uptoBulkAll r
def uptoBulkEntries {H : Type} : List (Lit × DataW H) → Nat
  | [] => 0
  | x :: r => uptoBulkEntry x + uptoBulkEntries r
def uptoBulkEntry {H : Type} : Lit × DataW H → Nat
  | (.string bytes, d) => bytes.length + uptoBulk d + 1
  | (_, d) => uptoBulk d + 1
 end
def uptoSmall : (H : Type) → List (DataW H) → Bool := fun _ ds => decide (uptoBulkAll ds ≤ 1048576)
def OpenSpec.upto (s : _root_.Go.ChangeSpec) : _root_.Go.OpenSpec := { _root_.Go.OpenSpec.ofChange s with cond := some uptoSmall }

/-- 'recordlinklaw37.ResolveExact', WHERE WHAT IT READS IS OF BULK AT MOST 1048576: true; the input reads as it did. -/
def resolveExactUptoRow : OpenClaim := { program := "ytmdhggfehknjjaagreat", sum := "350aa9bde9ebd62ec411493f9dad4bf4d73e93c8e1d563b3f40805f138ce4fbb", func := "recordlink/recordlinklaw37.ResolveExact", spec := "resolveExact", unfollowed := true, recurses := true, plainKeys := false, apart := false, narrowed := true }
def ResolveExactUptoSaid : Prop := resolveExactUptoRow.holds Tryz.pinned (OpenSpec.upto resolveExactSpec)

/-- 'recordlinklaw37.ResolveAgain', WHERE WHAT IT READS IS OF BULK AT MOST 1048576: true; the input reads as it did. -/
def resolveAgainUptoRow : OpenClaim := { program := "ytmdhggfehknjjaagreat", sum := "350aa9bde9ebd62ec411493f9dad4bf4d73e93c8e1d563b3f40805f138ce4fbb", func := "recordlink/recordlinklaw37.ResolveAgain", spec := "resolveAgain", unfollowed := true, recurses := true, plainKeys := false, apart := false, narrowed := true }
def ResolveAgainUptoSaid : Prop := resolveAgainUptoRow.holds Tryz.pinned (OpenSpec.upto resolveAgainSpec)

/-- 'recordlinklaw37.ResolveTouched', WHERE WHAT IT READS IS OF BULK AT MOST 1048576: true; the input reads as it did. -/
def resolveTouchedUptoRow : OpenClaim := { program := "ytmdhggfehknjjaagreat", sum := "350aa9bde9ebd62ec411493f9dad4bf4d73e93c8e1d563b3f40805f138ce4fbb", func := "recordlink/recordlinklaw37.ResolveTouched", spec := "resolveTouched", unfollowed := true, recurses := true, plainKeys := false, apart := false, narrowed := true }
def ResolveTouchedUptoSaid : Prop := resolveTouchedUptoRow.holds Tryz.pinned (OpenSpec.upto resolveTouchedSpec)

/-- 'recordlinklaw37.ResolveFull', WHERE WHAT IT READS IS OF BULK AT MOST 1048576: true; the input reads as it did. -/
def resolveFullUptoRow : OpenClaim := { program := "ytmdhggfehknjjaagreat", sum := "350aa9bde9ebd62ec411493f9dad4bf4d73e93c8e1d563b3f40805f138ce4fbb", func := "recordlink/recordlinklaw37.ResolveFull", spec := "resolveFull", unfollowed := true, recurses := true, plainKeys := false, apart := false, narrowed := true }
def ResolveFullUptoSaid : Prop := resolveFullUptoRow.holds Tryz.pinned (OpenSpec.upto resolveFullSpec)

/-- 'recordlinklaw37.ResolveRecord', WHERE WHAT IT READS IS OF BULK AT MOST 1048576: true; the input reads as it did. -/
def resolveRecordUptoRow : OpenClaim := { program := "ytmdhggfehknjjaagreat", sum := "350aa9bde9ebd62ec411493f9dad4bf4d73e93c8e1d563b3f40805f138ce4fbb", func := "recordlink/recordlinklaw37.ResolveRecord", spec := "resolveRecord", unfollowed := true, recurses := true, plainKeys := false, apart := false, narrowed := true }
def ResolveRecordUptoSaid : Prop := resolveRecordUptoRow.holds Tryz.pinned (OpenSpec.upto resolveRecordSpec)

/-- 'recordlinklaw37.ResolveWithdrawn', WHERE WHAT IT READS IS OF BULK AT MOST 1048576: true; the input reads as it did. -/
def resolveWithdrawnUptoRow : OpenClaim := { program := "ytmdhggfehknjjaagreat", sum := "350aa9bde9ebd62ec411493f9dad4bf4d73e93c8e1d563b3f40805f138ce4fbb", func := "recordlink/recordlinklaw37.ResolveWithdrawn", spec := "resolveWithdrawn", unfollowed := true, recurses := true, plainKeys := false, apart := false, narrowed := true }
def ResolveWithdrawnUptoSaid : Prop := resolveWithdrawnUptoRow.holds Tryz.pinned (OpenSpec.upto resolveWithdrawnSpec)

end Rows
end Go.Proofs.YtmdhggfehknjjaaGreat
