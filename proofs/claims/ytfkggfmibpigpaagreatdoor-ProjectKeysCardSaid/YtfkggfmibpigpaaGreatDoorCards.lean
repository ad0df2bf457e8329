/-
  DERIVED. GIVEN WITH THE SEED: THE CARDS: each row of YtfkggfmibpigpaaGreatDoorRows.lean that lists a variable, with what it lists TIED to the program's text (the seventh form; the later family's looks); each row that meets fmt, with fmt's text TOLD by the authors' own Lean function (tested against real Go, not proved from fmt's source: count such statements apart). THE CARD IS WHAT COUNTS. Prove the row's statement (the work); the ties are given (YtfkggfmibpigpaaGreatDoorTie.lean); close each card by the builder's one call (the guide's Derived/Test/ToyasCard.lean, 'card_holds'). Laid BY PROGRAM, IN A SANDBOX (cutbox-door.mjs). By AI agents, Wed Nov 11 2026. No macro, syntax, notation, axiom, sorry.
-/
import Derived.Test.YtfkggfmibpigpaaGreatDoorRows
import GoSem.ClaimSeven
namespace Go.Proofs.YtfkggfmibpigpaaGreatDoor
namespace Rows

/-- THE TIED CARD OF 'recordlinklaw34.ProjectKeys'. -/
def projectKeysCard : Claim7 := { stood := { row := projectKeysRow, standIns := [], harness := (true, "d1e0324f08906befe6338d8b0cc728d84da1ca8e8d16f4949f1c967f9d79318c"), looks := false }, kinds := [], alts := [], laidByText := true, laidKinds := [.data, .data, .data], laidTests := true, laidLooks := .later }
def ProjectKeysCardSaid : Prop := Claim7.holds Tryz.pinned (.plain (OpenSpec.ofChange projectKeysSpec)) projectKeysCard

/-- THE SECOND FORM's CARD OF 'recordlinklaw34.ProjectKeys'. -/
def projectKeysUptoCard : Claim7 := { stood := { row := projectKeysUptoRow, standIns := [], harness := (true, "d1e0324f08906befe6338d8b0cc728d84da1ca8e8d16f4949f1c967f9d79318c"), looks := false }, kinds := [], alts := [], laidByText := true, laidKinds := [.data, .data, .data], laidTests := true, laidLooks := .later }
def ProjectKeysUptoCardSaid : Prop := Claim7.holds Tryz.pinned (.plain (OpenSpec.upto projectKeysSpec)) projectKeysUptoCard
end Rows
end Go.Proofs.YtfkggfmibpigpaaGreatDoor
