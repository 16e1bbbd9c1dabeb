/-
  DERIVED. GIVEN WITH THE SEED: THE CARDS: each row of YtpdbbglpbngeiaaGreatDoorRows.lean that lists a variable, with what it lists TIED to the program's text (the seventh form; the later family's looks); each row that meets fmt, with fmt's text TOLD by the authors' own Lean function (tested against real Go, not proved from fmt's source: count such statements apart). THE CARD IS WHAT COUNTS. Prove the row's statement (the work); the ties are given (YtpdbbglpbngeiaaGreatDoorTie.lean); close each card by the builder's one call (the guide's Derived/Test/ToyasCard.lean, 'card_holds'). Laid BY PROGRAM, IN A SANDBOX (cutbox-door.mjs). By AI agents, Wed Nov 11 2026. No macro, syntax, notation, axiom, sorry.
-/
import Derived.Test.YtpdbbglpbngeiaaGreatDoorRows
import GoSem.ClaimSeven
namespace Go.Proofs.YtpdbbglpbngeiaaGreatDoor
namespace Rows

/-- THE TIED CARD OF 'veilstonelaw10.SaturateAllSpec'. -/
def saturateAllSpecCard : Claim7 := { stood := { row := saturateAllSpecRow, standIns := [], harness := (true, "393138f8ac6bd00fc40efb4314fabf50acdb8921fb25458f65df1bc7408813ed"), looks := false }, kinds := [], alts := [], laidByText := true, laidKinds := [.data, .data, .pinned], laidTests := true, laidLooks := .later }
def SaturateAllSpecCardSaid : Prop := Claim7.holds Tryz.pinned (.plain (OpenSpec.ofChange saturateAllSpecSpec)) saturateAllSpecCard

/-- THE TIED CARD OF 'veilstonelaw10.SaturateNextSpec'. -/
def saturateNextSpecCard : Claim7 := { stood := { row := saturateNextSpecRow, standIns := [], harness := (true, "393138f8ac6bd00fc40efb4314fabf50acdb8921fb25458f65df1bc7408813ed"), looks := false }, kinds := [], alts := [], laidByText := true, laidKinds := [.data, .data, .pinned], laidTests := true, laidLooks := .later }
def SaturateNextSpecCardSaid : Prop := Claim7.holds Tryz.pinned (.plain (OpenSpec.ofChange saturateNextSpecSpec)) saturateNextSpecCard

/-- THE TIED CARD OF 'veilstonelaw10.SaturateLeast'. -/
def saturateLeastCard : Claim7 := { stood := { row := saturateLeastRow, standIns := [], harness := (true, "393138f8ac6bd00fc40efb4314fabf50acdb8921fb25458f65df1bc7408813ed"), looks := false }, kinds := [], alts := [], laidByText := true, laidKinds := [.data, .data, .pinned], laidTests := true, laidLooks := .later }
def SaturateLeastCardSaid : Prop := Claim7.holds Tryz.pinned (.plain (OpenSpec.ofChange saturateLeastSpec)) saturateLeastCard

/-- THE TIED CARD OF 'veilstonelaw10.SaturateOrder'. -/
def saturateOrderCard : Claim7 := { stood := { row := saturateOrderRow, standIns := [], harness := (true, "393138f8ac6bd00fc40efb4314fabf50acdb8921fb25458f65df1bc7408813ed"), looks := false }, kinds := [], alts := [], laidByText := true, laidKinds := [.data, .data, .pinned], laidTests := true, laidLooks := .later }
def SaturateOrderCardSaid : Prop := Claim7.holds Tryz.pinned (.plain (OpenSpec.ofChange saturateOrderSpec)) saturateOrderCard

/-- THE TIED CARD OF 'veilstonelaw13.IncrementStartSpec'. -/
def incrementStartSpecCard : Claim7 := { stood := { row := incrementStartSpecRow, standIns := [], harness := (true, "393138f8ac6bd00fc40efb4314fabf50acdb8921fb25458f65df1bc7408813ed"), looks := false }, kinds := [], alts := [], laidByText := true, laidKinds := [.data, .data, .pinned], laidTests := true, laidLooks := .later }
def IncrementStartSpecCardSaid : Prop := Claim7.holds Tryz.pinned (.plain (OpenSpec.ofChange incrementStartSpecSpec)) incrementStartSpecCard

/-- THE TIED CARD OF 'veilstonelaw13.IncrementChangeSpec'. -/
def incrementChangeSpecCard : Claim7 := { stood := { row := incrementChangeSpecRow, standIns := [], harness := (true, "393138f8ac6bd00fc40efb4314fabf50acdb8921fb25458f65df1bc7408813ed"), looks := false }, kinds := [], alts := [], laidByText := true, laidKinds := [.data, .data, .pinned], laidTests := true, laidLooks := .later }
def IncrementChangeSpecCardSaid : Prop := Claim7.holds Tryz.pinned (.plain (OpenSpec.ofChange incrementChangeSpecSpec)) incrementChangeSpecCard

/-- THE TIED CARD OF 'veilstonelaw13.IncrementUndoes'. -/
def incrementUndoesCard : Claim7 := { stood := { row := incrementUndoesRow, standIns := [], harness := (true, "393138f8ac6bd00fc40efb4314fabf50acdb8921fb25458f65df1bc7408813ed"), looks := false }, kinds := [], alts := [], laidByText := true, laidKinds := [.data, .data, .pinned], laidTests := true, laidLooks := .later }
def IncrementUndoesCardSaid : Prop := Claim7.holds Tryz.pinned (.plain (OpenSpec.ofChange incrementUndoesSpec)) incrementUndoesCard

/-- THE TIED CARD OF 'veilstonelaw13.IncrementHistory'. -/
def incrementHistoryCard : Claim7 := { stood := { row := incrementHistoryRow, standIns := [], harness := (true, "393138f8ac6bd00fc40efb4314fabf50acdb8921fb25458f65df1bc7408813ed"), looks := false }, kinds := [], alts := [], laidByText := true, laidKinds := [.data, .data, .pinned], laidTests := true, laidLooks := .later }
def IncrementHistoryCardSaid : Prop := Claim7.holds Tryz.pinned (.plain (OpenSpec.ofChange incrementHistorySpec)) incrementHistoryCard

/-- THE TIED CARD OF 'veilstonelaw13.IncrementCommutes'. -/
def incrementCommutesCard : Claim7 := { stood := { row := incrementCommutesRow, standIns := [], harness := (true, "393138f8ac6bd00fc40efb4314fabf50acdb8921fb25458f65df1bc7408813ed"), looks := false }, kinds := [], alts := [], laidByText := true, laidKinds := [.data, .data, .pinned], laidTests := true, laidLooks := .later }
def IncrementCommutesCardSaid : Prop := Claim7.holds Tryz.pinned (.plain (OpenSpec.ofChange incrementCommutesSpec)) incrementCommutesCard

/-- THE TIED CARD OF 'veilstonelaw10.SaturateTransitive'. -/
def saturateTransitiveCard : Claim7 := { stood := { row := saturateTransitiveRow, standIns := [], harness := (true, "393138f8ac6bd00fc40efb4314fabf50acdb8921fb25458f65df1bc7408813ed"), looks := false }, kinds := [], alts := [], laidByText := true, laidKinds := [.data, .data, .pinned], laidTests := true, laidLooks := .later }
def SaturateTransitiveCardSaid : Prop := Claim7.holds Tryz.pinned (.plain (OpenSpec.ofChange saturateTransitiveSpec)) saturateTransitiveCard

/-- THE TIED CARD OF 'veilstonelaw13.IncrementAxioms'. -/
def incrementAxiomsCard : Claim7 := { stood := { row := incrementAxiomsRow, standIns := [], harness := (true, "393138f8ac6bd00fc40efb4314fabf50acdb8921fb25458f65df1bc7408813ed"), looks := false }, kinds := [], alts := [], laidByText := true, laidKinds := [.data, .data, .data, .data, .data, .data, .data, .pinned], laidTests := true, laidLooks := .later }
def IncrementAxiomsCardSaid : Prop := Claim7.holds Tryz.pinned (.plain (OpenSpec.ofChange incrementAxiomsSpec)) incrementAxiomsCard

/-- THE TIED CARD OF 'veilstonelaw10.SaturateBase'. -/
def saturateBaseCard : Claim7 := { stood := { row := saturateBaseRow, standIns := [], harness := (true, "393138f8ac6bd00fc40efb4314fabf50acdb8921fb25458f65df1bc7408813ed"), looks := false }, kinds := [], alts := [], laidByText := true, laidKinds := [.data, .data, .data, .data, .data, .data, .data, .pinned], laidTests := true, laidLooks := .later }
def SaturateBaseCardSaid : Prop := Claim7.holds Tryz.pinned (.plain (OpenSpec.ofChange saturateBaseSpec)) saturateBaseCard

/-- THE SECOND FORM's CARD OF 'veilstonelaw10.SaturateAllSpec'. -/
def saturateAllSpecUptoCard : Claim7 := { stood := { row := saturateAllSpecUptoRow, standIns := [], harness := (true, "393138f8ac6bd00fc40efb4314fabf50acdb8921fb25458f65df1bc7408813ed"), looks := false }, kinds := [], alts := [], laidByText := true, laidKinds := [.data, .data, .pinned], laidTests := true, laidLooks := .later }
def SaturateAllSpecUptoCardSaid : Prop := Claim7.holds Tryz.pinned (.plain (OpenSpec.upto saturateAllSpecSpec)) saturateAllSpecUptoCard

/-- THE SECOND FORM's CARD OF 'veilstonelaw10.SaturateNextSpec'. -/
def saturateNextSpecUptoCard : Claim7 := { stood := { row := saturateNextSpecUptoRow, standIns := [], harness := (true, "393138f8ac6bd00fc40efb4314fabf50acdb8921fb25458f65df1bc7408813ed"), looks := false }, kinds := [], alts := [], laidByText := true, laidKinds := [.data, .data, .pinned], laidTests := true, laidLooks := .later }
def SaturateNextSpecUptoCardSaid : Prop := Claim7.holds Tryz.pinned (.plain (OpenSpec.upto saturateNextSpecSpec)) saturateNextSpecUptoCard

/-- THE SECOND FORM's CARD OF 'veilstonelaw10.SaturateLeast'. -/
def saturateLeastUptoCard : Claim7 := { stood := { row := saturateLeastUptoRow, standIns := [], harness := (true, "393138f8ac6bd00fc40efb4314fabf50acdb8921fb25458f65df1bc7408813ed"), looks := false }, kinds := [], alts := [], laidByText := true, laidKinds := [.data, .data, .pinned], laidTests := true, laidLooks := .later }
def SaturateLeastUptoCardSaid : Prop := Claim7.holds Tryz.pinned (.plain (OpenSpec.upto saturateLeastSpec)) saturateLeastUptoCard

/-- THE SECOND FORM's CARD OF 'veilstonelaw10.SaturateOrder'. -/
def saturateOrderUptoCard : Claim7 := { stood := { row := saturateOrderUptoRow, standIns := [], harness := (true, "393138f8ac6bd00fc40efb4314fabf50acdb8921fb25458f65df1bc7408813ed"), looks := false }, kinds := [], alts := [], laidByText := true, laidKinds := [.data, .data, .pinned], laidTests := true, laidLooks := .later }
def SaturateOrderUptoCardSaid : Prop := Claim7.holds Tryz.pinned (.plain (OpenSpec.upto saturateOrderSpec)) saturateOrderUptoCard

/-- THE SECOND FORM's CARD OF 'veilstonelaw13.IncrementStartSpec'. -/
def incrementStartSpecUptoCard : Claim7 := { stood := { row := incrementStartSpecUptoRow, standIns := [], harness := (true, "393138f8ac6bd00fc40efb4314fabf50acdb8921fb25458f65df1bc7408813ed"), looks := false }, kinds := [], alts := [], laidByText := true, laidKinds := [.data, .data, .pinned], laidTests := true, laidLooks := .later }
def IncrementStartSpecUptoCardSaid : Prop := Claim7.holds Tryz.pinned (.plain (OpenSpec.upto incrementStartSpecSpec)) incrementStartSpecUptoCard

/-- THE SECOND FORM's CARD OF 'veilstonelaw13.IncrementChangeSpec'. -/
def incrementChangeSpecUptoCard : Claim7 := { stood := { row := incrementChangeSpecUptoRow, standIns := [], harness := (true, "393138f8ac6bd00fc40efb4314fabf50acdb8921fb25458f65df1bc7408813ed"), looks := false }, kinds := [], alts := [], laidByText := true, laidKinds := [.data, .data, .pinned], laidTests := true, laidLooks := .later }
def IncrementChangeSpecUptoCardSaid : Prop := Claim7.holds Tryz.pinned (.plain (OpenSpec.upto incrementChangeSpecSpec)) incrementChangeSpecUptoCard

/-- THE SECOND FORM's CARD OF 'veilstonelaw13.IncrementUndoes'. -/
def incrementUndoesUptoCard : Claim7 := { stood := { row := incrementUndoesUptoRow, standIns := [], harness := (true, "393138f8ac6bd00fc40efb4314fabf50acdb8921fb25458f65df1bc7408813ed"), looks := false }, kinds := [], alts := [], laidByText := true, laidKinds := [.data, .data, .pinned], laidTests := true, laidLooks := .later }
def IncrementUndoesUptoCardSaid : Prop := Claim7.holds Tryz.pinned (.plain (OpenSpec.upto incrementUndoesSpec)) incrementUndoesUptoCard

/-- THE SECOND FORM's CARD OF 'veilstonelaw13.IncrementHistory'. -/
def incrementHistoryUptoCard : Claim7 := { stood := { row := incrementHistoryUptoRow, standIns := [], harness := (true, "393138f8ac6bd00fc40efb4314fabf50acdb8921fb25458f65df1bc7408813ed"), looks := false }, kinds := [], alts := [], laidByText := true, laidKinds := [.data, .data, .pinned], laidTests := true, laidLooks := .later }
def IncrementHistoryUptoCardSaid : Prop := Claim7.holds Tryz.pinned (.plain (OpenSpec.upto incrementHistorySpec)) incrementHistoryUptoCard

/-- THE SECOND FORM's CARD OF 'veilstonelaw13.IncrementCommutes'. -/
def incrementCommutesUptoCard : Claim7 := { stood := { row := incrementCommutesUptoRow, standIns := [], harness := (true, "393138f8ac6bd00fc40efb4314fabf50acdb8921fb25458f65df1bc7408813ed"), looks := false }, kinds := [], alts := [], laidByText := true, laidKinds := [.data, .data, .pinned], laidTests := true, laidLooks := .later }
def IncrementCommutesUptoCardSaid : Prop := Claim7.holds Tryz.pinned (.plain (OpenSpec.upto incrementCommutesSpec)) incrementCommutesUptoCard

/-- THE SECOND FORM's CARD OF 'veilstonelaw10.SaturateTransitive'. -/
def saturateTransitiveUptoCard : Claim7 := { stood := { row := saturateTransitiveUptoRow, standIns := [], harness := (true, "393138f8ac6bd00fc40efb4314fabf50acdb8921fb25458f65df1bc7408813ed"), looks := false }, kinds := [], alts := [], laidByText := true, laidKinds := [.data, .data, .pinned], laidTests := true, laidLooks := .later }
def SaturateTransitiveUptoCardSaid : Prop := Claim7.holds Tryz.pinned (.plain (OpenSpec.upto saturateTransitiveSpec)) saturateTransitiveUptoCard

/-- THE SECOND FORM's CARD OF 'veilstonelaw13.IncrementAxioms'. -/
def incrementAxiomsUptoCard : Claim7 := { stood := { row := incrementAxiomsUptoRow, standIns := [], harness := (true, "393138f8ac6bd00fc40efb4314fabf50acdb8921fb25458f65df1bc7408813ed"), looks := false }, kinds := [], alts := [], laidByText := true, laidKinds := [.data, .data, .data, .data, .data, .data, .data, .pinned], laidTests := true, laidLooks := .later }
def IncrementAxiomsUptoCardSaid : Prop := Claim7.holds Tryz.pinned (.plain (OpenSpec.upto incrementAxiomsSpec)) incrementAxiomsUptoCard

/-- THE SECOND FORM's CARD OF 'veilstonelaw10.SaturateBase'. -/
def saturateBaseUptoCard : Claim7 := { stood := { row := saturateBaseUptoRow, standIns := [], harness := (true, "393138f8ac6bd00fc40efb4314fabf50acdb8921fb25458f65df1bc7408813ed"), looks := false }, kinds := [], alts := [], laidByText := true, laidKinds := [.data, .data, .data, .data, .data, .data, .data, .pinned], laidTests := true, laidLooks := .later }
def SaturateBaseUptoCardSaid : Prop := Claim7.holds Tryz.pinned (.plain (OpenSpec.upto saturateBaseSpec)) saturateBaseUptoCard
end Rows
end Go.Proofs.YtpdbbglpbngeiaaGreatDoor
