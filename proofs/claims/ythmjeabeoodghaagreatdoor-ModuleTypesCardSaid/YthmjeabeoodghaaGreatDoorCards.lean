/-
  DERIVED. GIVEN WITH THE SEED: THE CARDS: each row of YthmjeabeoodghaaGreatDoorRows.lean that lists a variable, with what it lists TIED to the program's text (the seventh form; the later family's looks); each row that meets fmt, with fmt's text TOLD by the authors' own Lean function (tested against real Go, not proved from fmt's source: count such statements apart). THE CARD IS WHAT COUNTS. Prove the row's statement (the work); the ties are given (YthmjeabeoodghaaGreatDoorTie.lean); close each card by the builder's one call (the guide's Derived/Test/ToyasCard.lean, 'card_holds'). Laid BY PROGRAM, IN A SANDBOX (cutbox-door.mjs). By AI agents, Wed Nov 11 2026. No macro, syntax, notation, axiom, sorry.
-/
import Derived.Test.YthmjeabeoodghaaGreatDoorRows
import GoSem.ClaimSeven
namespace Go.Proofs.YthmjeabeoodghaaGreatDoor
namespace Rows

/-- THE TIED CARD OF 'veilstonelaw15.ModuleExtracts'. -/
def moduleExtractsCard : Claim7 := { stood := { row := moduleExtractsRow, standIns := [], harness := (true, "43709daa38384d0ed919f7c53f7d5d8e254d235b62f5ee2d3a089bd5f1026d21"), looks := false }, kinds := [], alts := [], laidByText := true, laidKinds := [.data, .data, .data, .data, .data], laidTests := true, laidLooks := .later }
def ModuleExtractsCardSaid : Prop := Claim7.holds Tryz.pinned (.plain (OpenSpec.ofChange moduleExtractsSpec)) moduleExtractsCard

/-- THE TIED CARD OF 'veilstonelaw15.ModuleGoal'. -/
def moduleGoalCard : Claim7 := { stood := { row := moduleGoalRow, standIns := [], harness := (true, "43709daa38384d0ed919f7c53f7d5d8e254d235b62f5ee2d3a089bd5f1026d21"), looks := false }, kinds := [], alts := [], laidByText := true, laidKinds := [.data, .data, .data, .data, .data, .data, .data, .pinned], laidTests := true, laidLooks := .later }
def ModuleGoalCardSaid : Prop := Claim7.holds Tryz.pinned (.plain (OpenSpec.ofChange moduleGoalSpec)) moduleGoalCard

/-- THE TIED CARD OF 'veilstonelaw15.ModuleTypes'. -/
def moduleTypesCard : Claim7 := { stood := { row := moduleTypesRow, standIns := [], harness := (true, "43709daa38384d0ed919f7c53f7d5d8e254d235b62f5ee2d3a089bd5f1026d21"), looks := false }, kinds := [], alts := [], laidByText := true, laidKinds := [.data, .data, .data, .data, .data, .data, .data, .pinned], laidTests := true, laidLooks := .later }
def ModuleTypesCardSaid : Prop := Claim7.holds Tryz.pinned (.plain (OpenSpec.ofChange moduleTypesSpec)) moduleTypesCard

/-- THE SECOND FORM's CARD OF 'veilstonelaw15.ModuleExtracts'. -/
def moduleExtractsUptoCard : Claim7 := { stood := { row := moduleExtractsUptoRow, standIns := [], harness := (true, "43709daa38384d0ed919f7c53f7d5d8e254d235b62f5ee2d3a089bd5f1026d21"), looks := false }, kinds := [], alts := [], laidByText := true, laidKinds := [.data, .data, .data, .data, .data], laidTests := true, laidLooks := .later }
def ModuleExtractsUptoCardSaid : Prop := Claim7.holds Tryz.pinned (.plain (OpenSpec.upto moduleExtractsSpec)) moduleExtractsUptoCard

/-- THE SECOND FORM's CARD OF 'veilstonelaw15.ModuleGoal'. -/
def moduleGoalUptoCard : Claim7 := { stood := { row := moduleGoalUptoRow, standIns := [], harness := (true, "43709daa38384d0ed919f7c53f7d5d8e254d235b62f5ee2d3a089bd5f1026d21"), looks := false }, kinds := [], alts := [], laidByText := true, laidKinds := [.data, .data, .data, .data, .data, .data, .data, .pinned], laidTests := true, laidLooks := .later }
def ModuleGoalUptoCardSaid : Prop := Claim7.holds Tryz.pinned (.plain (OpenSpec.upto moduleGoalSpec)) moduleGoalUptoCard

/-- THE SECOND FORM's CARD OF 'veilstonelaw15.ModuleTypes'. -/
def moduleTypesUptoCard : Claim7 := { stood := { row := moduleTypesUptoRow, standIns := [], harness := (true, "43709daa38384d0ed919f7c53f7d5d8e254d235b62f5ee2d3a089bd5f1026d21"), looks := false }, kinds := [], alts := [], laidByText := true, laidKinds := [.data, .data, .data, .data, .data, .data, .data, .pinned], laidTests := true, laidLooks := .later }
def ModuleTypesUptoCardSaid : Prop := Claim7.holds Tryz.pinned (.plain (OpenSpec.upto moduleTypesSpec)) moduleTypesUptoCard
end Rows
end Go.Proofs.YthmjeabeoodghaaGreatDoor
