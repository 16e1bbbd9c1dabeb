/-
  DERIVED. GIVEN WITH THE SEED: THE CARDS: each row of YtkeanlfhghlgiaaGreatDoorRows.lean that lists a variable, with what it lists TIED to the program's text (the seventh form; the later family's looks); each row that meets fmt, with fmt's text TOLD by the authors' own Lean function (tested against real Go, not proved from fmt's source: count such statements apart). THE CARD IS WHAT COUNTS. Prove the row's statement (the work); the ties are given (YtkeanlfhghlgiaaGreatDoorTie.lean); close each card by the builder's one call (the guide's Derived/Test/ToyasCard.lean, 'card_holds'). Laid BY PROGRAM, IN A SANDBOX (cutbox-door.mjs). By AI agents, Wed Nov 11 2026. No macro, syntax, notation, axiom, sorry.
-/
import Derived.Test.YtkeanlfhghlgiaaGreatDoorRows
import GoSem.ClaimSeven
namespace Go.Proofs.YtkeanlfhghlgiaaGreatDoor
namespace Rows

/-- THE TIED CARD OF 'veilstonelaw11.ProofFindSpec'. -/
def proofFindSpecCard : Claim7 := { stood := { row := proofFindSpecRow, standIns := [], harness := (true, "58507672e0b71e294027ee25752d499ae67a1837e7fbef122f151b27ae6c7433"), looks := false }, kinds := [], alts := [], laidByText := true, laidKinds := [.data, .data, .pinned], laidTests := true, laidLooks := .later }
def ProofFindSpecCardSaid : Prop := Claim7.holds Tryz.pinned (.plain (OpenSpec.ofChange proofFindSpecSpec)) proofFindSpecCard

/-- THE TIED CARD OF 'veilstonelaw11.ProofComplete'. -/
def proofCompleteCard : Claim7 := { stood := { row := proofCompleteRow, standIns := [], harness := (true, "58507672e0b71e294027ee25752d499ae67a1837e7fbef122f151b27ae6c7433"), looks := false }, kinds := [], alts := [], laidByText := true, laidKinds := [.data, .data, .pinned], laidTests := true, laidLooks := .later }
def ProofCompleteCardSaid : Prop := Claim7.holds Tryz.pinned (.plain (OpenSpec.ofChange proofCompleteSpec)) proofCompleteCard

/-- THE TIED CARD OF 'veilstonelaw11.ProofSound'. -/
def proofSoundCard : Claim7 := { stood := { row := proofSoundRow, standIns := [], harness := (true, "58507672e0b71e294027ee25752d499ae67a1837e7fbef122f151b27ae6c7433"), looks := false }, kinds := [], alts := [], laidByText := true, laidKinds := [.data, .data, .pinned], laidTests := true, laidLooks := .later }
def ProofSoundCardSaid : Prop := Claim7.holds Tryz.pinned (.plain (OpenSpec.ofChange proofSoundSpec)) proofSoundCard

/-- THE TIED CARD OF 'veilstonelaw11.ProofPieces'. -/
def proofPiecesCard : Claim7 := { stood := { row := proofPiecesRow, standIns := [], harness := (true, "58507672e0b71e294027ee25752d499ae67a1837e7fbef122f151b27ae6c7433"), looks := false }, kinds := [], alts := [], laidByText := true, laidKinds := [.data, .data, .pinned], laidTests := true, laidLooks := .later }
def ProofPiecesCardSaid : Prop := Claim7.holds Tryz.pinned (.plain (OpenSpec.ofChange proofPiecesSpec)) proofPiecesCard

/-- THE TIED CARD OF 'veilstonelaw11.ProofTrimmed'. -/
def proofTrimmedCard : Claim7 := { stood := { row := proofTrimmedRow, standIns := [], harness := (true, "58507672e0b71e294027ee25752d499ae67a1837e7fbef122f151b27ae6c7433"), looks := false }, kinds := [], alts := [], laidByText := true, laidKinds := [.data, .data, .pinned], laidTests := true, laidLooks := .later }
def ProofTrimmedCardSaid : Prop := Claim7.holds Tryz.pinned (.plain (OpenSpec.ofChange proofTrimmedSpec)) proofTrimmedCard

/-- THE TIED CARD OF 'veilstonelaw11.ProofAxioms'. -/
def proofAxiomsCard : Claim7 := { stood := { row := proofAxiomsRow, standIns := [], harness := (true, "58507672e0b71e294027ee25752d499ae67a1837e7fbef122f151b27ae6c7433"), looks := false }, kinds := [], alts := [], laidByText := true, laidKinds := [.data, .data, .pinned], laidTests := true, laidLooks := .later }
def ProofAxiomsCardSaid : Prop := Claim7.holds Tryz.pinned (.plain (OpenSpec.ofChange proofAxiomsSpec)) proofAxiomsCard

/-- THE TIED CARD OF 'veilstonelaw11.ProofToolsSpec'. -/
def proofToolsSpecCard : Claim7 := { stood := { row := proofToolsSpecRow, standIns := [], harness := (true, "58507672e0b71e294027ee25752d499ae67a1837e7fbef122f151b27ae6c7433"), looks := false }, kinds := [], alts := [], laidByText := true, laidKinds := [.data, .data, .pinned], laidTests := true, laidLooks := .later }
def ProofToolsSpecCardSaid : Prop := Claim7.holds Tryz.pinned (.plain (OpenSpec.ofChange proofToolsSpecSpec)) proofToolsSpecCard

/-- THE SECOND FORM's CARD OF 'veilstonelaw11.ProofFindSpec'. -/
def proofFindSpecUptoCard : Claim7 := { stood := { row := proofFindSpecUptoRow, standIns := [], harness := (true, "58507672e0b71e294027ee25752d499ae67a1837e7fbef122f151b27ae6c7433"), looks := false }, kinds := [], alts := [], laidByText := true, laidKinds := [.data, .data, .pinned], laidTests := true, laidLooks := .later }
def ProofFindSpecUptoCardSaid : Prop := Claim7.holds Tryz.pinned (.plain (OpenSpec.upto proofFindSpecSpec)) proofFindSpecUptoCard

/-- THE SECOND FORM's CARD OF 'veilstonelaw11.ProofComplete'. -/
def proofCompleteUptoCard : Claim7 := { stood := { row := proofCompleteUptoRow, standIns := [], harness := (true, "58507672e0b71e294027ee25752d499ae67a1837e7fbef122f151b27ae6c7433"), looks := false }, kinds := [], alts := [], laidByText := true, laidKinds := [.data, .data, .pinned], laidTests := true, laidLooks := .later }
def ProofCompleteUptoCardSaid : Prop := Claim7.holds Tryz.pinned (.plain (OpenSpec.upto proofCompleteSpec)) proofCompleteUptoCard

/-- THE SECOND FORM's CARD OF 'veilstonelaw11.ProofSound'. -/
def proofSoundUptoCard : Claim7 := { stood := { row := proofSoundUptoRow, standIns := [], harness := (true, "58507672e0b71e294027ee25752d499ae67a1837e7fbef122f151b27ae6c7433"), looks := false }, kinds := [], alts := [], laidByText := true, laidKinds := [.data, .data, .pinned], laidTests := true, laidLooks := .later }
def ProofSoundUptoCardSaid : Prop := Claim7.holds Tryz.pinned (.plain (OpenSpec.upto proofSoundSpec)) proofSoundUptoCard

/-- THE SECOND FORM's CARD OF 'veilstonelaw11.ProofPieces'. -/
def proofPiecesUptoCard : Claim7 := { stood := { row := proofPiecesUptoRow, standIns := [], harness := (true, "58507672e0b71e294027ee25752d499ae67a1837e7fbef122f151b27ae6c7433"), looks := false }, kinds := [], alts := [], laidByText := true, laidKinds := [.data, .data, .pinned], laidTests := true, laidLooks := .later }
def ProofPiecesUptoCardSaid : Prop := Claim7.holds Tryz.pinned (.plain (OpenSpec.upto proofPiecesSpec)) proofPiecesUptoCard

/-- THE SECOND FORM's CARD OF 'veilstonelaw11.ProofTrimmed'. -/
def proofTrimmedUptoCard : Claim7 := { stood := { row := proofTrimmedUptoRow, standIns := [], harness := (true, "58507672e0b71e294027ee25752d499ae67a1837e7fbef122f151b27ae6c7433"), looks := false }, kinds := [], alts := [], laidByText := true, laidKinds := [.data, .data, .pinned], laidTests := true, laidLooks := .later }
def ProofTrimmedUptoCardSaid : Prop := Claim7.holds Tryz.pinned (.plain (OpenSpec.upto proofTrimmedSpec)) proofTrimmedUptoCard

/-- THE SECOND FORM's CARD OF 'veilstonelaw11.ProofAxioms'. -/
def proofAxiomsUptoCard : Claim7 := { stood := { row := proofAxiomsUptoRow, standIns := [], harness := (true, "58507672e0b71e294027ee25752d499ae67a1837e7fbef122f151b27ae6c7433"), looks := false }, kinds := [], alts := [], laidByText := true, laidKinds := [.data, .data, .pinned], laidTests := true, laidLooks := .later }
def ProofAxiomsUptoCardSaid : Prop := Claim7.holds Tryz.pinned (.plain (OpenSpec.upto proofAxiomsSpec)) proofAxiomsUptoCard

/-- THE SECOND FORM's CARD OF 'veilstonelaw11.ProofToolsSpec'. -/
def proofToolsSpecUptoCard : Claim7 := { stood := { row := proofToolsSpecUptoRow, standIns := [], harness := (true, "58507672e0b71e294027ee25752d499ae67a1837e7fbef122f151b27ae6c7433"), looks := false }, kinds := [], alts := [], laidByText := true, laidKinds := [.data, .data, .pinned], laidTests := true, laidLooks := .later }
def ProofToolsSpecUptoCardSaid : Prop := Claim7.holds Tryz.pinned (.plain (OpenSpec.upto proofToolsSpecSpec)) proofToolsSpecUptoCard
end Rows
end Go.Proofs.YtkeanlfhghlgiaaGreatDoor
