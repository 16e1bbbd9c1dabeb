/-
  DERIVED. GIVEN WITH THE SEED: THE CARDS: each row of YtamklbgaipakfaaGreatDoorRows.lean that lists a variable, with what it lists TIED to the program's text (the seventh form; the later family's looks); each row that meets fmt, with fmt's text TOLD by the authors' own Lean function (tested against real Go, not proved from fmt's source: count such statements apart). THE CARD IS WHAT COUNTS. Prove the row's statement (the work); the ties are given (YtamklbgaipakfaaGreatDoorTie.lean); close each card by the builder's one call (the guide's Derived/Test/ToyasCard.lean, 'card_holds'). Laid BY PROGRAM, IN A SANDBOX (cutbox-door.mjs). By AI agents, Wed Nov 11 2026. No macro, syntax, notation, axiom, sorry.
-/
import Derived.Test.YtamklbgaipakfaaGreatDoorRows
import GoSem.ClaimSeven
namespace Go.Proofs.YtamklbgaipakfaaGreatDoor
namespace Rows

/-- THE TIED CARD OF 'veilstonelaw15.ModuleReach'. -/
def moduleReachCard : Claim7 := { stood := { row := moduleReachRow, standIns := [], harness := (true, "ee7d90eaafc0f914d08abf75e363d6c4aab6d81c2554268b0bd198c71ea374ba"), looks := false }, kinds := [], alts := [], laidByText := true, laidKinds := [.data, .data, .data, .data, .data], laidTests := true, laidLooks := .later }
def ModuleReachCardSaid : Prop := Claim7.holds Tryz.pinned (.plain (OpenSpec.ofChange moduleReachSpec)) moduleReachCard

/-- THE TIED CARD OF 'veilstonelaw15.ModuleShrinks'. -/
def moduleShrinksCard : Claim7 := { stood := { row := moduleShrinksRow, standIns := [], harness := (true, "ee7d90eaafc0f914d08abf75e363d6c4aab6d81c2554268b0bd198c71ea374ba"), looks := false }, kinds := [], alts := [], laidByText := true, laidKinds := [.data, .data, .data, .data, .data], laidTests := true, laidLooks := .later }
def ModuleShrinksCardSaid : Prop := Claim7.holds Tryz.pinned (.plain (OpenSpec.ofChange moduleShrinksSpec)) moduleShrinksCard

/-- THE TIED CARD OF 'veilstonelaw15.ModuleExtracts'. -/
def moduleExtractsCard : Claim7 := { stood := { row := moduleExtractsRow, standIns := [], harness := (true, "ee7d90eaafc0f914d08abf75e363d6c4aab6d81c2554268b0bd198c71ea374ba"), looks := false }, kinds := [], alts := [], laidByText := true, laidKinds := [.data, .data, .data, .data, .data], laidTests := true, laidLooks := .later }
def ModuleExtractsCardSaid : Prop := Claim7.holds Tryz.pinned (.plain (OpenSpec.ofChange moduleExtractsSpec)) moduleExtractsCard

/-- THE TIED CARD OF 'veilstonelaw15.ModuleExact'. -/
def moduleExactCard : Claim7 := { stood := { row := moduleExactRow, standIns := [], harness := (true, "ee7d90eaafc0f914d08abf75e363d6c4aab6d81c2554268b0bd198c71ea374ba"), looks := false }, kinds := [], alts := [], laidByText := true, laidKinds := [.data, .data, .data, .data, .data, .data, .data, .pinned], laidTests := true, laidLooks := .later }
def ModuleExactCardSaid : Prop := Claim7.holds Tryz.pinned (.plain (OpenSpec.ofChange moduleExactSpec)) moduleExactCard

/-- THE TIED CARD OF 'veilstonelaw15.ModuleClosed'. -/
def moduleClosedCard : Claim7 := { stood := { row := moduleClosedRow, standIns := [], harness := (true, "ee7d90eaafc0f914d08abf75e363d6c4aab6d81c2554268b0bd198c71ea374ba"), looks := false }, kinds := [], alts := [], laidByText := true, laidKinds := [.data, .data, .data, .data, .data, .data, .data, .pinned], laidTests := true, laidLooks := .later }
def ModuleClosedCardSaid : Prop := Claim7.holds Tryz.pinned (.plain (OpenSpec.ofChange moduleClosedSpec)) moduleClosedCard

/-- THE SECOND FORM's CARD OF 'veilstonelaw15.ModuleReach'. -/
def moduleReachUptoCard : Claim7 := { stood := { row := moduleReachUptoRow, standIns := [], harness := (true, "ee7d90eaafc0f914d08abf75e363d6c4aab6d81c2554268b0bd198c71ea374ba"), looks := false }, kinds := [], alts := [], laidByText := true, laidKinds := [.data, .data, .data, .data, .data], laidTests := true, laidLooks := .later }
def ModuleReachUptoCardSaid : Prop := Claim7.holds Tryz.pinned (.plain (OpenSpec.upto moduleReachSpec)) moduleReachUptoCard

/-- THE SECOND FORM's CARD OF 'veilstonelaw15.ModuleShrinks'. -/
def moduleShrinksUptoCard : Claim7 := { stood := { row := moduleShrinksUptoRow, standIns := [], harness := (true, "ee7d90eaafc0f914d08abf75e363d6c4aab6d81c2554268b0bd198c71ea374ba"), looks := false }, kinds := [], alts := [], laidByText := true, laidKinds := [.data, .data, .data, .data, .data], laidTests := true, laidLooks := .later }
def ModuleShrinksUptoCardSaid : Prop := Claim7.holds Tryz.pinned (.plain (OpenSpec.upto moduleShrinksSpec)) moduleShrinksUptoCard

/-- THE SECOND FORM's CARD OF 'veilstonelaw15.ModuleExtracts'. -/
def moduleExtractsUptoCard : Claim7 := { stood := { row := moduleExtractsUptoRow, standIns := [], harness := (true, "ee7d90eaafc0f914d08abf75e363d6c4aab6d81c2554268b0bd198c71ea374ba"), looks := false }, kinds := [], alts := [], laidByText := true, laidKinds := [.data, .data, .data, .data, .data], laidTests := true, laidLooks := .later }
def ModuleExtractsUptoCardSaid : Prop := Claim7.holds Tryz.pinned (.plain (OpenSpec.upto moduleExtractsSpec)) moduleExtractsUptoCard

/-- THE SECOND FORM's CARD OF 'veilstonelaw15.ModuleExact'. -/
def moduleExactUptoCard : Claim7 := { stood := { row := moduleExactUptoRow, standIns := [], harness := (true, "ee7d90eaafc0f914d08abf75e363d6c4aab6d81c2554268b0bd198c71ea374ba"), looks := false }, kinds := [], alts := [], laidByText := true, laidKinds := [.data, .data, .data, .data, .data, .data, .data, .pinned], laidTests := true, laidLooks := .later }
def ModuleExactUptoCardSaid : Prop := Claim7.holds Tryz.pinned (.plain (OpenSpec.upto moduleExactSpec)) moduleExactUptoCard

/-- THE SECOND FORM's CARD OF 'veilstonelaw15.ModuleClosed'. -/
def moduleClosedUptoCard : Claim7 := { stood := { row := moduleClosedUptoRow, standIns := [], harness := (true, "ee7d90eaafc0f914d08abf75e363d6c4aab6d81c2554268b0bd198c71ea374ba"), looks := false }, kinds := [], alts := [], laidByText := true, laidKinds := [.data, .data, .data, .data, .data, .data, .data, .pinned], laidTests := true, laidLooks := .later }
def ModuleClosedUptoCardSaid : Prop := Claim7.holds Tryz.pinned (.plain (OpenSpec.upto moduleClosedSpec)) moduleClosedUptoCard
end Rows
end Go.Proofs.YtamklbgaipakfaaGreatDoor
