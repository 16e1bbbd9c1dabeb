/-
  DERIVED. GIVEN WITH THE SEED: THE CARDS: each row of YtoafjmalfclpoaaGreatDoorRows.lean that lists a variable, with what it lists TIED to the program's text (the seventh form; the later family's looks); each row that meets fmt, with fmt's text TOLD by the authors' own Lean function (tested against real Go, not proved from fmt's source: count such statements apart). THE CARD IS WHAT COUNTS. Prove the row's statement (the work); the ties are given (YtoafjmalfclpoaaGreatDoorTie.lean); close each card by the builder's one call (the guide's Derived/Test/ToyasCard.lean, 'card_holds'). Laid BY PROGRAM, IN A SANDBOX (cutbox-door.mjs). By AI agents, Wed Nov 11 2026. No macro, syntax, notation, axiom, sorry.
-/
import Derived.Test.YtoafjmalfclpoaaGreatDoorRows
import GoSem.ClaimSeven
namespace Go.Proofs.YtoafjmalfclpoaaGreatDoor
namespace Rows

/-- THE TIED CARD OF 'veilstonelaw09.NormalParts'. -/
def normalPartsCard : Claim7 := { stood := { row := normalPartsRow, standIns := [], harness := (true, "7aaf4bc3b5aaabc3bd257bb27519b224f08225dd8344844f07c1948b67c7cb09"), looks := false }, kinds := [], alts := [], laidByText := true, laidKinds := [.data, .data, .data, .data, .data, .data, .data, .pinned], laidTests := true, laidLooks := .later }
def NormalPartsCardSaid : Prop := Claim7.holds Tryz.pinned (.plain (OpenSpec.ofChange normalPartsSpec)) normalPartsCard

/-- THE TIED CARD OF 'veilstonelaw09.NormalPieces'. -/
def normalPiecesCard : Claim7 := { stood := { row := normalPiecesRow, standIns := [], harness := (true, "7aaf4bc3b5aaabc3bd257bb27519b224f08225dd8344844f07c1948b67c7cb09"), looks := false }, kinds := [], alts := [], laidByText := true, laidKinds := [.data, .data, .data, .data, .data, .data, .data, .pinned], laidTests := true, laidLooks := .later }
def NormalPiecesCardSaid : Prop := Claim7.holds Tryz.pinned (.plain (OpenSpec.ofChange normalPiecesSpec)) normalPiecesCard

/-- THE TIED CARD OF 'veilstonelaw09.NormalSmall'. -/
def normalSmallCard : Claim7 := { stood := { row := normalSmallRow, standIns := [], harness := (true, "7aaf4bc3b5aaabc3bd257bb27519b224f08225dd8344844f07c1948b67c7cb09"), looks := false }, kinds := [], alts := [], laidByText := true, laidKinds := [.data, .data, .data, .data, .data, .data, .data, .pinned], laidTests := true, laidLooks := .later }
def NormalSmallCardSaid : Prop := Claim7.holds Tryz.pinned (.plain (OpenSpec.ofChange normalSmallSpec)) normalSmallCard

/-- THE TIED CARD OF 'veilstonelaw09.NormalAtoms'. -/
def normalAtomsCard : Claim7 := { stood := { row := normalAtomsRow, standIns := [], harness := (true, "7aaf4bc3b5aaabc3bd257bb27519b224f08225dd8344844f07c1948b67c7cb09"), looks := false }, kinds := [], alts := [], laidByText := true, laidKinds := [.data, .data, .data, .data, .data, .data, .data, .pinned], laidTests := true, laidLooks := .later }
def NormalAtomsCardSaid : Prop := Claim7.holds Tryz.pinned (.plain (OpenSpec.ofChange normalAtomsSpec)) normalAtomsCard

/-- THE TIED CARD OF 'veilstonelaw09.NormalChains'. -/
def normalChainsCard : Claim7 := { stood := { row := normalChainsRow, standIns := [], harness := (true, "7aaf4bc3b5aaabc3bd257bb27519b224f08225dd8344844f07c1948b67c7cb09"), looks := false }, kinds := [], alts := [], laidByText := true, laidKinds := [.data, .data, .data, .data, .data, .data, .data, .pinned], laidTests := true, laidLooks := .later }
def NormalChainsCardSaid : Prop := Claim7.holds Tryz.pinned (.plain (OpenSpec.ofChange normalChainsSpec)) normalChainsCard

/-- THE TIED CARD OF 'veilstonelaw09.NormalLists'. -/
def normalListsCard : Claim7 := { stood := { row := normalListsRow, standIns := [], harness := (true, "7aaf4bc3b5aaabc3bd257bb27519b224f08225dd8344844f07c1948b67c7cb09"), looks := false }, kinds := [], alts := [], laidByText := true, laidKinds := [.data, .data, .data, .data, .data, .data, .data, .pinned], laidTests := true, laidLooks := .later }
def NormalListsCardSaid : Prop := Claim7.holds Tryz.pinned (.plain (OpenSpec.ofChange normalListsSpec)) normalListsCard

/-- THE TIED CARD OF 'veilstonelaw09.NormalOf'. -/
def normalOfCard : Claim7 := { stood := { row := normalOfRow, standIns := [], harness := (true, "7aaf4bc3b5aaabc3bd257bb27519b224f08225dd8344844f07c1948b67c7cb09"), looks := false }, kinds := [], alts := [], laidByText := true, laidKinds := [.data, .data, .data, .data, .data, .data, .data, .pinned], laidTests := true, laidLooks := .later }
def NormalOfCardSaid : Prop := Claim7.holds Tryz.pinned (.plain (OpenSpec.ofChange normalOfSpec)) normalOfCard

/-- THE SECOND FORM's CARD OF 'veilstonelaw09.NormalParts'. -/
def normalPartsUptoCard : Claim7 := { stood := { row := normalPartsUptoRow, standIns := [], harness := (true, "7aaf4bc3b5aaabc3bd257bb27519b224f08225dd8344844f07c1948b67c7cb09"), looks := false }, kinds := [], alts := [], laidByText := true, laidKinds := [.data, .data, .data, .data, .data, .data, .data, .pinned], laidTests := true, laidLooks := .later }
def NormalPartsUptoCardSaid : Prop := Claim7.holds Tryz.pinned (.plain (OpenSpec.upto normalPartsSpec)) normalPartsUptoCard

/-- THE SECOND FORM's CARD OF 'veilstonelaw09.NormalPieces'. -/
def normalPiecesUptoCard : Claim7 := { stood := { row := normalPiecesUptoRow, standIns := [], harness := (true, "7aaf4bc3b5aaabc3bd257bb27519b224f08225dd8344844f07c1948b67c7cb09"), looks := false }, kinds := [], alts := [], laidByText := true, laidKinds := [.data, .data, .data, .data, .data, .data, .data, .pinned], laidTests := true, laidLooks := .later }
def NormalPiecesUptoCardSaid : Prop := Claim7.holds Tryz.pinned (.plain (OpenSpec.upto normalPiecesSpec)) normalPiecesUptoCard

/-- THE SECOND FORM's CARD OF 'veilstonelaw09.NormalSmall'. -/
def normalSmallUptoCard : Claim7 := { stood := { row := normalSmallUptoRow, standIns := [], harness := (true, "7aaf4bc3b5aaabc3bd257bb27519b224f08225dd8344844f07c1948b67c7cb09"), looks := false }, kinds := [], alts := [], laidByText := true, laidKinds := [.data, .data, .data, .data, .data, .data, .data, .pinned], laidTests := true, laidLooks := .later }
def NormalSmallUptoCardSaid : Prop := Claim7.holds Tryz.pinned (.plain (OpenSpec.upto normalSmallSpec)) normalSmallUptoCard

/-- THE SECOND FORM's CARD OF 'veilstonelaw09.NormalAtoms'. -/
def normalAtomsUptoCard : Claim7 := { stood := { row := normalAtomsUptoRow, standIns := [], harness := (true, "7aaf4bc3b5aaabc3bd257bb27519b224f08225dd8344844f07c1948b67c7cb09"), looks := false }, kinds := [], alts := [], laidByText := true, laidKinds := [.data, .data, .data, .data, .data, .data, .data, .pinned], laidTests := true, laidLooks := .later }
def NormalAtomsUptoCardSaid : Prop := Claim7.holds Tryz.pinned (.plain (OpenSpec.upto normalAtomsSpec)) normalAtomsUptoCard

/-- THE SECOND FORM's CARD OF 'veilstonelaw09.NormalChains'. -/
def normalChainsUptoCard : Claim7 := { stood := { row := normalChainsUptoRow, standIns := [], harness := (true, "7aaf4bc3b5aaabc3bd257bb27519b224f08225dd8344844f07c1948b67c7cb09"), looks := false }, kinds := [], alts := [], laidByText := true, laidKinds := [.data, .data, .data, .data, .data, .data, .data, .pinned], laidTests := true, laidLooks := .later }
def NormalChainsUptoCardSaid : Prop := Claim7.holds Tryz.pinned (.plain (OpenSpec.upto normalChainsSpec)) normalChainsUptoCard

/-- THE SECOND FORM's CARD OF 'veilstonelaw09.NormalLists'. -/
def normalListsUptoCard : Claim7 := { stood := { row := normalListsUptoRow, standIns := [], harness := (true, "7aaf4bc3b5aaabc3bd257bb27519b224f08225dd8344844f07c1948b67c7cb09"), looks := false }, kinds := [], alts := [], laidByText := true, laidKinds := [.data, .data, .data, .data, .data, .data, .data, .pinned], laidTests := true, laidLooks := .later }
def NormalListsUptoCardSaid : Prop := Claim7.holds Tryz.pinned (.plain (OpenSpec.upto normalListsSpec)) normalListsUptoCard

/-- THE SECOND FORM's CARD OF 'veilstonelaw09.NormalOf'. -/
def normalOfUptoCard : Claim7 := { stood := { row := normalOfUptoRow, standIns := [], harness := (true, "7aaf4bc3b5aaabc3bd257bb27519b224f08225dd8344844f07c1948b67c7cb09"), looks := false }, kinds := [], alts := [], laidByText := true, laidKinds := [.data, .data, .data, .data, .data, .data, .data, .pinned], laidTests := true, laidLooks := .later }
def NormalOfUptoCardSaid : Prop := Claim7.holds Tryz.pinned (.plain (OpenSpec.upto normalOfSpec)) normalOfUptoCard
end Rows
end Go.Proofs.YtoafjmalfclpoaaGreatDoor
