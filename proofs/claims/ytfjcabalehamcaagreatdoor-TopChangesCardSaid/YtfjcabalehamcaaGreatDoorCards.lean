/-
  DERIVED. GIVEN WITH THE SEED: THE CARDS: each row of YtfjcabalehamcaaGreatDoorRows.lean that lists a variable, with what it lists TIED to the program's text (the seventh form; the later family's looks); each row that meets fmt, with fmt's text TOLD by the authors' own Lean function (tested against real Go, not proved from fmt's source: count such statements apart). THE CARD IS WHAT COUNTS. Prove the row's statement (the work); the ties are given (YtfjcabalehamcaaGreatDoorTie.lean); close each card by the builder's one call (the guide's Derived/Test/ToyasCard.lean, 'card_holds'). Laid BY PROGRAM, IN A SANDBOX (cutbox-door.mjs). By AI agents, Wed Nov 11 2026. No macro, syntax, notation, axiom, sorry.
-/
import Derived.Test.YtfjcabalehamcaaGreatDoorRows
import GoSem.ClaimSeven
namespace Go.Proofs.YtfjcabalehamcaaGreatDoor
namespace Rows

/-- THE TIED CARD OF 'veilstonetop.TopChanges'. -/
def topChangesCard : Claim7 := { stood := { row := topChangesRow, standIns := [], harness := (true, "ade15cc15624d8371128a1adc6a18f57e05501ad9b16b12a71893b188329e4c9"), looks := false }, kinds := [], alts := [], laidByText := true, laidKinds := [.data, .data, .data, .data, .data, .data, .data, .pinned], laidTests := true, laidLooks := .later }
def TopChangesCardSaid : Prop := Claim7.holds Tryz.pinned (.plain (OpenSpec.ofChange topChangesSpec)) topChangesCard

/-- THE SECOND FORM's CARD OF 'veilstonetop.TopChanges'. -/
def topChangesUptoCard : Claim7 := { stood := { row := topChangesUptoRow, standIns := [], harness := (true, "ade15cc15624d8371128a1adc6a18f57e05501ad9b16b12a71893b188329e4c9"), looks := false }, kinds := [], alts := [], laidByText := true, laidKinds := [.data, .data, .data, .data, .data, .data, .data, .pinned], laidTests := true, laidLooks := .later }
def TopChangesUptoCardSaid : Prop := Claim7.holds Tryz.pinned (.plain (OpenSpec.upto topChangesSpec)) topChangesUptoCard
end Rows
end Go.Proofs.YtfjcabalehamcaaGreatDoor
