/-
  DERIVED. GIVEN WITH THE SEED: THE CARDS: each row of YtpbnmnfdgckaiaaGreatDoorRows.lean that lists a variable, with what it lists TIED to the program's text (the seventh form; the later family's looks); each row that meets fmt, with fmt's text TOLD by the authors' own Lean function (tested against real Go, not proved from fmt's source: count such statements apart). THE CARD IS WHAT COUNTS. Prove the row's statement (the work); the ties are given (YtpbnmnfdgckaiaaGreatDoorTie.lean); close each card by the builder's one call (the guide's Derived/Test/ToyasCard.lean, 'card_holds'). Laid BY PROGRAM, IN A SANDBOX (cutbox-door.mjs). By AI agents, Wed Nov 11 2026. No macro, syntax, notation, axiom, sorry.
-/
import Derived.Test.YtpbnmnfdgckaiaaGreatDoorRows
import GoSem.ClaimSeven
namespace Go.Proofs.YtpbnmnfdgckaiaaGreatDoor
namespace Rows

/-- THE TIED CARD OF 'veilstonelaw22.CanonReaches'. -/
def canonReachesCard : Claim7 := { stood := { row := canonReachesRow, standIns := [], harness := (true, "9abe4b1ca7048bb24b7303a2c4d9841e067622889cbfcadfadc420d05ce41fe2"), looks := false }, kinds := [], alts := [], laidByText := true, laidKinds := [.data, .data, .data, .data, .data, .data, .data, .pinned], laidTests := true, laidLooks := .later }
def CanonReachesCardSaid : Prop := Claim7.holds Tryz.pinned (.plain (OpenSpec.ofChange canonReachesSpec)) canonReachesCard

/-- THE TIED CARD OF 'veilstonelaw22.CanonGrows'. -/
def canonGrowsCard : Claim7 := { stood := { row := canonGrowsRow, standIns := [], harness := (true, "9abe4b1ca7048bb24b7303a2c4d9841e067622889cbfcadfadc420d05ce41fe2"), looks := false }, kinds := [], alts := [], laidByText := true, laidKinds := [.data, .data, .data, .data, .data, .data, .data, .pinned], laidTests := true, laidLooks := .later }
def CanonGrowsCardSaid : Prop := Claim7.holds Tryz.pinned (.plain (OpenSpec.ofChange canonGrowsSpec)) canonGrowsCard

/-- THE TIED CARD OF 'veilstonelaw22.CanonRoles'. -/
def canonRolesCard : Claim7 := { stood := { row := canonRolesRow, standIns := [], harness := (true, "9abe4b1ca7048bb24b7303a2c4d9841e067622889cbfcadfadc420d05ce41fe2"), looks := false }, kinds := [], alts := [], laidByText := true, laidKinds := [.data, .data, .data, .data, .data, .data, .data, .pinned], laidTests := true, laidLooks := .later }
def CanonRolesCardSaid : Prop := Claim7.holds Tryz.pinned (.plain (OpenSpec.ofChange canonRolesSpec)) canonRolesCard

/-- THE TIED CARD OF 'veilstonelaw22.CanonAsksSpec'. -/
def canonAsksSpecCard : Claim7 := { stood := { row := canonAsksSpecRow, standIns := [], harness := (true, "9abe4b1ca7048bb24b7303a2c4d9841e067622889cbfcadfadc420d05ce41fe2"), looks := false }, kinds := [], alts := [], laidByText := true, laidKinds := [.data, .data, .data, .data, .data, .data, .data, .pinned], laidTests := true, laidLooks := .later }
def CanonAsksSpecCardSaid : Prop := Claim7.holds Tryz.pinned (.plain (OpenSpec.ofChange canonAsksSpecSpec)) canonAsksSpecCard

/-- THE SECOND FORM's CARD OF 'veilstonelaw22.CanonReaches'. -/
def canonReachesUptoCard : Claim7 := { stood := { row := canonReachesUptoRow, standIns := [], harness := (true, "9abe4b1ca7048bb24b7303a2c4d9841e067622889cbfcadfadc420d05ce41fe2"), looks := false }, kinds := [], alts := [], laidByText := true, laidKinds := [.data, .data, .data, .data, .data, .data, .data, .pinned], laidTests := true, laidLooks := .later }
def CanonReachesUptoCardSaid : Prop := Claim7.holds Tryz.pinned (.plain (OpenSpec.upto canonReachesSpec)) canonReachesUptoCard

/-- THE SECOND FORM's CARD OF 'veilstonelaw22.CanonGrows'. -/
def canonGrowsUptoCard : Claim7 := { stood := { row := canonGrowsUptoRow, standIns := [], harness := (true, "9abe4b1ca7048bb24b7303a2c4d9841e067622889cbfcadfadc420d05ce41fe2"), looks := false }, kinds := [], alts := [], laidByText := true, laidKinds := [.data, .data, .data, .data, .data, .data, .data, .pinned], laidTests := true, laidLooks := .later }
def CanonGrowsUptoCardSaid : Prop := Claim7.holds Tryz.pinned (.plain (OpenSpec.upto canonGrowsSpec)) canonGrowsUptoCard

/-- THE SECOND FORM's CARD OF 'veilstonelaw22.CanonRoles'. -/
def canonRolesUptoCard : Claim7 := { stood := { row := canonRolesUptoRow, standIns := [], harness := (true, "9abe4b1ca7048bb24b7303a2c4d9841e067622889cbfcadfadc420d05ce41fe2"), looks := false }, kinds := [], alts := [], laidByText := true, laidKinds := [.data, .data, .data, .data, .data, .data, .data, .pinned], laidTests := true, laidLooks := .later }
def CanonRolesUptoCardSaid : Prop := Claim7.holds Tryz.pinned (.plain (OpenSpec.upto canonRolesSpec)) canonRolesUptoCard

/-- THE SECOND FORM's CARD OF 'veilstonelaw22.CanonAsksSpec'. -/
def canonAsksSpecUptoCard : Claim7 := { stood := { row := canonAsksSpecUptoRow, standIns := [], harness := (true, "9abe4b1ca7048bb24b7303a2c4d9841e067622889cbfcadfadc420d05ce41fe2"), looks := false }, kinds := [], alts := [], laidByText := true, laidKinds := [.data, .data, .data, .data, .data, .data, .data, .pinned], laidTests := true, laidLooks := .later }
def CanonAsksSpecUptoCardSaid : Prop := Claim7.holds Tryz.pinned (.plain (OpenSpec.upto canonAsksSpecSpec)) canonAsksSpecUptoCard
end Rows
end Go.Proofs.YtpbnmnfdgckaiaaGreatDoor
