/-
  DERIVED. GIVEN WITH THE SEED: THE CARDS: each row of YtaffcjgphlhppaaGreatDoorRows.lean that lists a variable, with what it lists TIED to the program's text (the seventh form; the later family's looks); each row that meets fmt, with fmt's text TOLD by the authors' own Lean function (tested against real Go, not proved from fmt's source: count such statements apart). THE CARD IS WHAT COUNTS. Prove the row's statement (the work); the ties are given (YtaffcjgphlhppaaGreatDoorTie.lean); close each card by the builder's one call (the guide's Derived/Test/ToyasCard.lean, 'card_holds'). Laid BY PROGRAM, IN A SANDBOX (cutbox-door.mjs). By AI agents, Wed Nov 11 2026. No macro, syntax, notation, axiom, sorry.
-/
import Derived.Test.YtaffcjgphlhppaaGreatDoorRows
import GoSem.ClaimSeven
namespace Go.Proofs.YtaffcjgphlhppaaGreatDoor
namespace Rows

/-- THE TIED CARD OF 'veilstonelaw12.CheckerChecks'. -/
def checkerChecksCard : Claim7 := { stood := { row := checkerChecksRow, standIns := [], harness := (true, "f877dabc3300b750e26d0499c44caa625d2658d13b9373800241500b545656be"), looks := false }, kinds := [], alts := [], laidByText := true, laidKinds := [.data, .data, .data, .data, .data, .data, .data, .pinned], laidTests := true, laidLooks := .later }
def CheckerChecksCardSaid : Prop := Claim7.holds Tryz.pinned (.plain (OpenSpec.ofChange checkerChecksSpec)) checkerChecksCard

/-- THE TIED CARD OF 'veilstonelaw12.CheckerGrows'. -/
def checkerGrowsCard : Claim7 := { stood := { row := checkerGrowsRow, standIns := [], harness := (true, "f877dabc3300b750e26d0499c44caa625d2658d13b9373800241500b545656be"), looks := false }, kinds := [], alts := [], laidByText := true, laidKinds := [.data, .data, .data, .data, .data, .data, .data, .pinned], laidTests := true, laidLooks := .later }
def CheckerGrowsCardSaid : Prop := Claim7.holds Tryz.pinned (.plain (OpenSpec.ofChange checkerGrowsSpec)) checkerGrowsCard

/-- THE TIED CARD OF 'veilstonelaw12.CheckerCounts'. -/
def checkerCountsCard : Claim7 := { stood := { row := checkerCountsRow, standIns := [], harness := (true, "f877dabc3300b750e26d0499c44caa625d2658d13b9373800241500b545656be"), looks := false }, kinds := [], alts := [], laidByText := true, laidKinds := [.data, .data, .data, .data, .data, .data, .data, .pinned], laidTests := true, laidLooks := .later }
def CheckerCountsCardSaid : Prop := Claim7.holds Tryz.pinned (.plain (OpenSpec.ofChange checkerCountsSpec)) checkerCountsCard

/-- THE TIED CARD OF 'veilstonelaw12.CheckerBytes'. -/
def checkerBytesCard : Claim7 := { stood := { row := checkerBytesRow, standIns := [], harness := (true, "f877dabc3300b750e26d0499c44caa625d2658d13b9373800241500b545656be"), looks := false }, kinds := [], alts := [], laidByText := true, laidKinds := [.data, .data, .data, .data, .data, .data, .data, .pinned], laidTests := true, laidLooks := .later }
def CheckerBytesCardSaid : Prop := Claim7.holds Tryz.pinned (.plain (OpenSpec.ofChange checkerBytesSpec)) checkerBytesCard

/-- THE TIED CARD OF 'veilstonelaw12.CheckerSound'. -/
def checkerSoundCard : Claim7 := { stood := { row := checkerSoundRow, standIns := [], harness := (true, "f877dabc3300b750e26d0499c44caa625d2658d13b9373800241500b545656be"), looks := false }, kinds := [], alts := [], laidByText := true, laidKinds := [.data, .data, .data, .data, .data, .data, .data, .pinned], laidTests := true, laidLooks := .later }
def CheckerSoundCardSaid : Prop := Claim7.holds Tryz.pinned (.plain (OpenSpec.ofChange checkerSoundSpec)) checkerSoundCard

/-- THE TIED CARD OF 'veilstonelaw12.CheckerTrusts'. -/
def checkerTrustsCard : Claim7 := { stood := { row := checkerTrustsRow, standIns := [], harness := (true, "f877dabc3300b750e26d0499c44caa625d2658d13b9373800241500b545656be"), looks := false }, kinds := [], alts := [], laidByText := true, laidKinds := [.data, .data, .data, .data, .data, .data, .data, .pinned], laidTests := true, laidLooks := .later }
def CheckerTrustsCardSaid : Prop := Claim7.holds Tryz.pinned (.plain (OpenSpec.ofChange checkerTrustsSpec)) checkerTrustsCard

/-- THE SECOND FORM's CARD OF 'veilstonelaw12.CheckerChecks'. -/
def checkerChecksUptoCard : Claim7 := { stood := { row := checkerChecksUptoRow, standIns := [], harness := (true, "f877dabc3300b750e26d0499c44caa625d2658d13b9373800241500b545656be"), looks := false }, kinds := [], alts := [], laidByText := true, laidKinds := [.data, .data, .data, .data, .data, .data, .data, .pinned], laidTests := true, laidLooks := .later }
def CheckerChecksUptoCardSaid : Prop := Claim7.holds Tryz.pinned (.plain (OpenSpec.upto checkerChecksSpec)) checkerChecksUptoCard

/-- THE SECOND FORM's CARD OF 'veilstonelaw12.CheckerGrows'. -/
def checkerGrowsUptoCard : Claim7 := { stood := { row := checkerGrowsUptoRow, standIns := [], harness := (true, "f877dabc3300b750e26d0499c44caa625d2658d13b9373800241500b545656be"), looks := false }, kinds := [], alts := [], laidByText := true, laidKinds := [.data, .data, .data, .data, .data, .data, .data, .pinned], laidTests := true, laidLooks := .later }
def CheckerGrowsUptoCardSaid : Prop := Claim7.holds Tryz.pinned (.plain (OpenSpec.upto checkerGrowsSpec)) checkerGrowsUptoCard

/-- THE SECOND FORM's CARD OF 'veilstonelaw12.CheckerCounts'. -/
def checkerCountsUptoCard : Claim7 := { stood := { row := checkerCountsUptoRow, standIns := [], harness := (true, "f877dabc3300b750e26d0499c44caa625d2658d13b9373800241500b545656be"), looks := false }, kinds := [], alts := [], laidByText := true, laidKinds := [.data, .data, .data, .data, .data, .data, .data, .pinned], laidTests := true, laidLooks := .later }
def CheckerCountsUptoCardSaid : Prop := Claim7.holds Tryz.pinned (.plain (OpenSpec.upto checkerCountsSpec)) checkerCountsUptoCard

/-- THE SECOND FORM's CARD OF 'veilstonelaw12.CheckerBytes'. -/
def checkerBytesUptoCard : Claim7 := { stood := { row := checkerBytesUptoRow, standIns := [], harness := (true, "f877dabc3300b750e26d0499c44caa625d2658d13b9373800241500b545656be"), looks := false }, kinds := [], alts := [], laidByText := true, laidKinds := [.data, .data, .data, .data, .data, .data, .data, .pinned], laidTests := true, laidLooks := .later }
def CheckerBytesUptoCardSaid : Prop := Claim7.holds Tryz.pinned (.plain (OpenSpec.upto checkerBytesSpec)) checkerBytesUptoCard

/-- THE SECOND FORM's CARD OF 'veilstonelaw12.CheckerSound'. -/
def checkerSoundUptoCard : Claim7 := { stood := { row := checkerSoundUptoRow, standIns := [], harness := (true, "f877dabc3300b750e26d0499c44caa625d2658d13b9373800241500b545656be"), looks := false }, kinds := [], alts := [], laidByText := true, laidKinds := [.data, .data, .data, .data, .data, .data, .data, .pinned], laidTests := true, laidLooks := .later }
def CheckerSoundUptoCardSaid : Prop := Claim7.holds Tryz.pinned (.plain (OpenSpec.upto checkerSoundSpec)) checkerSoundUptoCard

/-- THE SECOND FORM's CARD OF 'veilstonelaw12.CheckerTrusts'. -/
def checkerTrustsUptoCard : Claim7 := { stood := { row := checkerTrustsUptoRow, standIns := [], harness := (true, "f877dabc3300b750e26d0499c44caa625d2658d13b9373800241500b545656be"), looks := false }, kinds := [], alts := [], laidByText := true, laidKinds := [.data, .data, .data, .data, .data, .data, .data, .pinned], laidTests := true, laidLooks := .later }
def CheckerTrustsUptoCardSaid : Prop := Claim7.holds Tryz.pinned (.plain (OpenSpec.upto checkerTrustsSpec)) checkerTrustsUptoCard
end Rows
end Go.Proofs.YtaffcjgphlhppaaGreatDoor
