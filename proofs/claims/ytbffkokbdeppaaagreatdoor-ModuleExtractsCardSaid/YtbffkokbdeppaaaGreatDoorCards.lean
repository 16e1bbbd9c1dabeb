/-
  DERIVED. GIVEN WITH THE SEED: THE CARDS: each row of YtbffkokbdeppaaaGreatDoorRows.lean that lists a variable, with what it lists TIED to the program's text (the seventh form; the later family's looks); each row that meets fmt, with fmt's text TOLD by the authors' own Lean function (tested against real Go, not proved from fmt's source: count such statements apart). THE CARD IS WHAT COUNTS. Prove the row's statement (the work); the ties are given (YtbffkokbdeppaaaGreatDoorTie.lean); close each card by the builder's one call (the guide's Derived/Test/ToyasCard.lean, 'card_holds'). Laid BY PROGRAM, IN A SANDBOX (cutbox-door.mjs). By AI agents, Wed Nov 11 2026. No macro, syntax, notation, axiom, sorry.
-/
import Derived.Test.YtbffkokbdeppaaaGreatDoorRows
import GoSem.ClaimSeven
namespace Go.Proofs.YtbffkokbdeppaaaGreatDoor
namespace Rows

/-- THE TIED CARD OF 'veilstonelaw15.ModuleExtracts'. -/
def moduleExtractsCard : Claim7 := { stood := { row := moduleExtractsRow, standIns := [], harness := (true, "08e07ce45f25e7dd2c143a498aaaeb45ae79f750b85c3ddc74640dafe62bd8e6"), looks := false }, kinds := [], alts := [], laidByText := true, laidKinds := [.data, .data, .data, .data, .data], laidTests := true, laidLooks := .later }
def ModuleExtractsCardSaid : Prop := Claim7.holds Tryz.pinned (.plain (OpenSpec.ofChange moduleExtractsSpec)) moduleExtractsCard

/-- THE TIED CARD OF 'veilstonelaw15.ModuleGoal'. -/
def moduleGoalCard : Claim7 := { stood := { row := moduleGoalRow, standIns := [], harness := (true, "08e07ce45f25e7dd2c143a498aaaeb45ae79f750b85c3ddc74640dafe62bd8e6"), looks := false }, kinds := [], alts := [], laidByText := true, laidKinds := [.data, .data, .data, .data, .data, .data, .data, .pinned], laidTests := true, laidLooks := .later }
def ModuleGoalCardSaid : Prop := Claim7.holds Tryz.pinned (.plain (OpenSpec.ofChange moduleGoalSpec)) moduleGoalCard

/-- THE TIED CARD OF 'veilstonelaw22.CanonTells'. -/
def canonTellsCard : Claim7 := { stood := { row := canonTellsRow, standIns := [], harness := (true, "08e07ce45f25e7dd2c143a498aaaeb45ae79f750b85c3ddc74640dafe62bd8e6"), looks := false }, kinds := [], alts := [], laidByText := true, laidKinds := [.data, .data, .data, .data, .data, .data, .data, .pinned], laidTests := true, laidLooks := .later }
def CanonTellsCardSaid : Prop := Claim7.holds Tryz.pinned (.plain (OpenSpec.ofChange canonTellsSpec)) canonTellsCard

/-- THE SECOND FORM's CARD OF 'veilstonelaw15.ModuleExtracts'. -/
def moduleExtractsUptoCard : Claim7 := { stood := { row := moduleExtractsUptoRow, standIns := [], harness := (true, "08e07ce45f25e7dd2c143a498aaaeb45ae79f750b85c3ddc74640dafe62bd8e6"), looks := false }, kinds := [], alts := [], laidByText := true, laidKinds := [.data, .data, .data, .data, .data], laidTests := true, laidLooks := .later }
def ModuleExtractsUptoCardSaid : Prop := Claim7.holds Tryz.pinned (.plain (OpenSpec.upto moduleExtractsSpec)) moduleExtractsUptoCard

/-- THE SECOND FORM's CARD OF 'veilstonelaw15.ModuleGoal'. -/
def moduleGoalUptoCard : Claim7 := { stood := { row := moduleGoalUptoRow, standIns := [], harness := (true, "08e07ce45f25e7dd2c143a498aaaeb45ae79f750b85c3ddc74640dafe62bd8e6"), looks := false }, kinds := [], alts := [], laidByText := true, laidKinds := [.data, .data, .data, .data, .data, .data, .data, .pinned], laidTests := true, laidLooks := .later }
def ModuleGoalUptoCardSaid : Prop := Claim7.holds Tryz.pinned (.plain (OpenSpec.upto moduleGoalSpec)) moduleGoalUptoCard

/-- THE SECOND FORM's CARD OF 'veilstonelaw22.CanonTells'. -/
def canonTellsUptoCard : Claim7 := { stood := { row := canonTellsUptoRow, standIns := [], harness := (true, "08e07ce45f25e7dd2c143a498aaaeb45ae79f750b85c3ddc74640dafe62bd8e6"), looks := false }, kinds := [], alts := [], laidByText := true, laidKinds := [.data, .data, .data, .data, .data, .data, .data, .pinned], laidTests := true, laidLooks := .later }
def CanonTellsUptoCardSaid : Prop := Claim7.holds Tryz.pinned (.plain (OpenSpec.upto canonTellsSpec)) canonTellsUptoCard
end Rows
end Go.Proofs.YtbffkokbdeppaaaGreatDoor
