/-
  NARROWER THAN 'FOR EVERY INPUT', by the rows' own cells (each row's printed sentence says how): ProofFindSpec: laid · ProofComplete: laid · ProofSound: laid · ProofPieces: laid · ProofTrimmed: laid · ProofAxioms: laid · ProofToolsSpec: laid.
  DERIVED. THE GIVEN ROWS OF THIS SEAT. 7 by the template 'for every input the law returns true; each argument reads behind the call as it read before'; 0 by the template 'total and deterministic' (their statements: YtkeanlfhghlgiaaGreatDoorTotals.lean).
  GIVEN WITH THE SEED: the statements are not yours to turn. If you find one false, say at which input.
  Laid BY PROGRAM, IN A SANDBOX (cutbox-rows.mjs): the forced cells as the released guide's own fill.sh prints them over the translation 63b7d196425d0c9c… (all of the seat's roots in one cut). By AI agents, Wed Nov 11 2026. No macro, syntax, notation, axiom, sorry.
-/
import Derived.Test.YtkeanlfhghlgiaaGreatDoorChecked
import GoSem.PinnedTables
import GoSem.Claim
import GoSem.ClaimJoined
import GoSem.ClaimMapViews
import Derived.JoinedTies
import Derived.KernelRfl
namespace Go.Proofs.YtkeanlfhghlgiaaGreatDoor
/- THE CELL 'sum', in the pinned program and in every row, IS THE sha256 OF THE DUMP (.gsa) THAT YtkeanlfhghlgiaaGreatDoorProg.lean LOADS. Nothing in Lean hashes anything: it is a label: what it is worth is what the hold of that sum in a sandbox is worth. -/
noncomputable def Tryz.pinned : Pinned := { name := "ytkeanlfhghlgiaagreatdoor", sum := "63b7d196425d0c9c9a05330eaba50a50224adb17a8ae4c0dc3abee5aa57e56ee", checked := Tryz.checked }
namespace Rows
def none {H : Type} : Left H := { results := [], args := [] }

/- WHAT THE LISTED PACKAGE-LEVEL VARIABLES READ AS WHEN THE CALL BEGINS. Each datum BY PROGRAM (the guide's laid-datum.mjs) off the statement by which the dump's own 'gosem.cut.vars' lays the variable. In a bare row this is a premise. The card (YtkeanlfhghlgiaaGreatDoorCards.lean) ties it to the program's text. -/
def laid_unicode_utf8_acceptRanges {H : Type} : DataW H := .agg [.agg [.lit (.int .u8 128), .lit (.int .u8 191)], .agg [.lit (.int .u8 160), .lit (.int .u8 191)], .agg [.lit (.int .u8 128), .lit (.int .u8 159)], .agg [.lit (.int .u8 144), .lit (.int .u8 191)], .agg [.lit (.int .u8 128), .lit (.int .u8 143)], .agg [.lit (.int .u8 0), .lit (.int .u8 0)], .agg [.lit (.int .u8 0), .lit (.int .u8 0)], .agg [.lit (.int .u8 0), .lit (.int .u8 0)], .agg [.lit (.int .u8 0), .lit (.int .u8 0)], .agg [.lit (.int .u8 0), .lit (.int .u8 0)], .agg [.lit (.int .u8 0), .lit (.int .u8 0)], .agg [.lit (.int .u8 0), .lit (.int .u8 0)], .agg [.lit (.int .u8 0), .lit (.int .u8 0)], .agg [.lit (.int .u8 0), .lit (.int .u8 0)], .agg [.lit (.int .u8 0), .lit (.int .u8 0)], .agg [.lit (.int .u8 0), .lit (.int .u8 0)]]
def laid_veilstone_normal_uses {H : Type} : DataW H := .agg [.agg [.lit (.bool false), .lit (.bool false), .lit (.bool false), .lit (.bool false), .lit (.bool false), .lit (.bool false), .lit (.bool false)], .agg [.lit (.bool true), .lit (.bool false), .lit (.bool true), .lit (.bool false), .lit (.bool false), .lit (.bool false), .lit (.bool false)], .agg [.lit (.bool true), .lit (.bool true), .lit (.bool true), .lit (.bool false), .lit (.bool false), .lit (.bool false), .lit (.bool false)], .agg [.lit (.bool true), .lit (.bool false), .lit (.bool true), .lit (.bool true), .lit (.bool false), .lit (.bool false), .lit (.bool false)], .agg [.lit (.bool true), .lit (.bool false), .lit (.bool true), .lit (.bool true), .lit (.bool false), .lit (.bool false), .lit (.bool false)], .agg [.lit (.bool false), .lit (.bool false), .lit (.bool false), .lit (.bool true), .lit (.bool false), .lit (.bool true), .lit (.bool false)], .agg [.lit (.bool false), .lit (.bool false), .lit (.bool false), .lit (.bool true), .lit (.bool true), .lit (.bool true), .lit (.bool false)], .agg [.lit (.bool false), .lit (.bool false), .lit (.bool false), .lit (.bool true), .lit (.bool false), .lit (.bool false), .lit (.bool false)], .agg [.lit (.bool true), .lit (.bool false), .lit (.bool false), .lit (.bool true), .lit (.bool false), .lit (.bool false), .lit (.bool true)], .agg [.lit (.bool false), .lit (.bool false), .lit (.bool true), .lit (.bool true), .lit (.bool false), .lit (.bool false), .lit (.bool true)]]
/-- One of Go's own tables, pinned by name: the form's constant. -/
def laid_unicode_utf8_first : DataW Unit := Go.Pinned.utf8First

/-- 'veilstonelaw11.ProofFindSpec': WHATEVER THE INPUT: true; the input reads as it did. -/
def proofFindSpecSpec : ChangeSpec := { name := "proofFindSpec", fn := fun _ => fun
  | [d1, d2, d3] => { results := [.lit (.bool true)], args := [d1, d2, d3] }
  | _ => none }
def proofFindSpecRow : OpenClaim := { program := "ytkeanlfhghlgiaagreatdoor", sum := "63b7d196425d0c9c9a05330eaba50a50224adb17a8ae4c0dc3abee5aa57e56ee", func := "veilstone/veilstonelaw11.ProofFindSpec", spec := "proofFindSpec", inPlace := ["internal/bytealg.CountString", "internal/bytealg.IndexByteString", "internal/bytealg.IndexString", "internal/bytealg.abigen_runtime_cmpstring"], unfollowed := true, recurses := true, named := ["veilstone/normal.uses", "unicode/utf8.first", "unicode/utf8.acceptRanges", "internal/bytealg.MaxLen"], plainKeys := false, apart := false, laid := [("unicode/utf8.acceptRanges", laid_unicode_utf8_acceptRanges), ("veilstone/normal.uses", laid_veilstone_normal_uses), ("unicode/utf8.first", laid_unicode_utf8_first)] }
def ProofFindSpecSaid : Prop := proofFindSpecRow.holds Tryz.pinned (OpenSpec.ofChange proofFindSpecSpec)

/-- ITS FALSE NEIGHBOUR: 'it returns false'. Refute it at one input. -/
def proofFindSpecWrong : ChangeSpec := { name := "proofFindSpec", fn := fun _ => fun
  | [d1, d2, d3] => { results := [.lit (.bool false)], args := [d1, d2, d3] }
  | _ => none }
def ProofFindSpecWrongFalsely : Prop := proofFindSpecRow.holds Tryz.pinned (OpenSpec.ofChange proofFindSpecWrong)

/-- 'veilstonelaw11.ProofComplete': WHATEVER THE INPUT: true; the input reads as it did. -/
def proofCompleteSpec : ChangeSpec := { name := "proofComplete", fn := fun _ => fun
  | [d] => { results := [.lit (.bool true)], args := [d] }
  | _ => none }
def proofCompleteRow : OpenClaim := { program := "ytkeanlfhghlgiaagreatdoor", sum := "63b7d196425d0c9c9a05330eaba50a50224adb17a8ae4c0dc3abee5aa57e56ee", func := "veilstone/veilstonelaw11.ProofComplete", spec := "proofComplete", inPlace := ["internal/bytealg.CountString", "internal/bytealg.IndexByteString", "internal/bytealg.IndexString", "internal/bytealg.abigen_runtime_cmpstring"], unfollowed := true, recurses := true, named := ["veilstone/normal.uses", "unicode/utf8.first", "unicode/utf8.acceptRanges", "internal/bytealg.MaxLen"], plainKeys := false, apart := false, laid := [("unicode/utf8.acceptRanges", laid_unicode_utf8_acceptRanges), ("veilstone/normal.uses", laid_veilstone_normal_uses), ("unicode/utf8.first", laid_unicode_utf8_first)] }
def ProofCompleteSaid : Prop := proofCompleteRow.holds Tryz.pinned (OpenSpec.ofChange proofCompleteSpec)

/-- ITS FALSE NEIGHBOUR: 'it returns false'. Refute it at one input. -/
def proofCompleteWrong : ChangeSpec := { name := "proofComplete", fn := fun _ => fun
  | [d] => { results := [.lit (.bool false)], args := [d] }
  | _ => none }
def ProofCompleteWrongFalsely : Prop := proofCompleteRow.holds Tryz.pinned (OpenSpec.ofChange proofCompleteWrong)

/-- 'veilstonelaw11.ProofSound': WHATEVER THE INPUT: true; the input reads as it did. -/
def proofSoundSpec : ChangeSpec := { name := "proofSound", fn := fun _ => fun
  | [d1, d2, d3] => { results := [.lit (.bool true)], args := [d1, d2, d3] }
  | _ => none }
def proofSoundRow : OpenClaim := { program := "ytkeanlfhghlgiaagreatdoor", sum := "63b7d196425d0c9c9a05330eaba50a50224adb17a8ae4c0dc3abee5aa57e56ee", func := "veilstone/veilstonelaw11.ProofSound", spec := "proofSound", inPlace := ["internal/bytealg.CountString", "internal/bytealg.IndexByteString", "internal/bytealg.IndexString", "internal/bytealg.abigen_runtime_cmpstring"], unfollowed := true, recurses := true, named := ["veilstone/normal.uses", "unicode/utf8.first", "unicode/utf8.acceptRanges", "internal/bytealg.MaxLen"], plainKeys := false, apart := false, laid := [("unicode/utf8.acceptRanges", laid_unicode_utf8_acceptRanges), ("veilstone/normal.uses", laid_veilstone_normal_uses), ("unicode/utf8.first", laid_unicode_utf8_first)] }
def ProofSoundSaid : Prop := proofSoundRow.holds Tryz.pinned (OpenSpec.ofChange proofSoundSpec)

/-- ITS FALSE NEIGHBOUR: 'it returns false'. Refute it at one input. -/
def proofSoundWrong : ChangeSpec := { name := "proofSound", fn := fun _ => fun
  | [d1, d2, d3] => { results := [.lit (.bool false)], args := [d1, d2, d3] }
  | _ => none }
def ProofSoundWrongFalsely : Prop := proofSoundRow.holds Tryz.pinned (OpenSpec.ofChange proofSoundWrong)

/-- 'veilstonelaw11.ProofPieces': WHATEVER THE INPUT: true; the input reads as it did. -/
def proofPiecesSpec : ChangeSpec := { name := "proofPieces", fn := fun _ => fun
  | [d1, d2] => { results := [.lit (.bool true)], args := [d1, d2] }
  | _ => none }
def proofPiecesRow : OpenClaim := { program := "ytkeanlfhghlgiaagreatdoor", sum := "63b7d196425d0c9c9a05330eaba50a50224adb17a8ae4c0dc3abee5aa57e56ee", func := "veilstone/veilstonelaw11.ProofPieces", spec := "proofPieces", inPlace := ["internal/bytealg.CountString", "internal/bytealg.IndexByteString", "internal/bytealg.IndexString", "internal/bytealg.abigen_runtime_cmpstring"], unfollowed := true, recurses := true, named := ["veilstone/normal.uses", "unicode/utf8.first", "unicode/utf8.acceptRanges", "internal/bytealg.MaxLen"], plainKeys := false, apart := false, laid := [("unicode/utf8.acceptRanges", laid_unicode_utf8_acceptRanges), ("veilstone/normal.uses", laid_veilstone_normal_uses), ("unicode/utf8.first", laid_unicode_utf8_first)] }
def ProofPiecesSaid : Prop := proofPiecesRow.holds Tryz.pinned (OpenSpec.ofChange proofPiecesSpec)

/-- ITS FALSE NEIGHBOUR: 'it returns false'. Refute it at one input. -/
def proofPiecesWrong : ChangeSpec := { name := "proofPieces", fn := fun _ => fun
  | [d1, d2] => { results := [.lit (.bool false)], args := [d1, d2] }
  | _ => none }
def ProofPiecesWrongFalsely : Prop := proofPiecesRow.holds Tryz.pinned (OpenSpec.ofChange proofPiecesWrong)

/-- 'veilstonelaw11.ProofTrimmed': WHATEVER THE INPUT: true; the input reads as it did. -/
def proofTrimmedSpec : ChangeSpec := { name := "proofTrimmed", fn := fun _ => fun
  | [d1, d2] => { results := [.lit (.bool true)], args := [d1, d2] }
  | _ => none }
def proofTrimmedRow : OpenClaim := { program := "ytkeanlfhghlgiaagreatdoor", sum := "63b7d196425d0c9c9a05330eaba50a50224adb17a8ae4c0dc3abee5aa57e56ee", func := "veilstone/veilstonelaw11.ProofTrimmed", spec := "proofTrimmed", inPlace := ["internal/bytealg.CountString", "internal/bytealg.IndexByteString", "internal/bytealg.IndexString", "internal/bytealg.abigen_runtime_cmpstring"], unfollowed := true, recurses := true, named := ["veilstone/normal.uses", "unicode/utf8.first", "unicode/utf8.acceptRanges", "internal/bytealg.MaxLen"], plainKeys := false, apart := false, laid := [("unicode/utf8.acceptRanges", laid_unicode_utf8_acceptRanges), ("veilstone/normal.uses", laid_veilstone_normal_uses), ("unicode/utf8.first", laid_unicode_utf8_first)] }
def ProofTrimmedSaid : Prop := proofTrimmedRow.holds Tryz.pinned (OpenSpec.ofChange proofTrimmedSpec)

/-- ITS FALSE NEIGHBOUR: 'it returns false'. Refute it at one input. -/
def proofTrimmedWrong : ChangeSpec := { name := "proofTrimmed", fn := fun _ => fun
  | [d1, d2] => { results := [.lit (.bool false)], args := [d1, d2] }
  | _ => none }
def ProofTrimmedWrongFalsely : Prop := proofTrimmedRow.holds Tryz.pinned (OpenSpec.ofChange proofTrimmedWrong)

/-- 'veilstonelaw11.ProofAxioms': WHATEVER THE INPUT: true; the input reads as it did. -/
def proofAxiomsSpec : ChangeSpec := { name := "proofAxioms", fn := fun _ => fun
  | [d1, d2] => { results := [.lit (.bool true)], args := [d1, d2] }
  | _ => none }
def proofAxiomsRow : OpenClaim := { program := "ytkeanlfhghlgiaagreatdoor", sum := "63b7d196425d0c9c9a05330eaba50a50224adb17a8ae4c0dc3abee5aa57e56ee", func := "veilstone/veilstonelaw11.ProofAxioms", spec := "proofAxioms", inPlace := ["internal/bytealg.CountString", "internal/bytealg.IndexByteString", "internal/bytealg.IndexString", "internal/bytealg.abigen_runtime_cmpstring"], unfollowed := true, recurses := true, named := ["veilstone/normal.uses", "unicode/utf8.first", "unicode/utf8.acceptRanges", "internal/bytealg.MaxLen"], plainKeys := false, apart := false, laid := [("unicode/utf8.acceptRanges", laid_unicode_utf8_acceptRanges), ("veilstone/normal.uses", laid_veilstone_normal_uses), ("unicode/utf8.first", laid_unicode_utf8_first)] }
def ProofAxiomsSaid : Prop := proofAxiomsRow.holds Tryz.pinned (OpenSpec.ofChange proofAxiomsSpec)

/-- ITS FALSE NEIGHBOUR: 'it returns false'. Refute it at one input. -/
def proofAxiomsWrong : ChangeSpec := { name := "proofAxioms", fn := fun _ => fun
  | [d1, d2] => { results := [.lit (.bool false)], args := [d1, d2] }
  | _ => none }
def ProofAxiomsWrongFalsely : Prop := proofAxiomsRow.holds Tryz.pinned (OpenSpec.ofChange proofAxiomsWrong)

/-- 'veilstonelaw11.ProofToolsSpec': WHATEVER THE INPUT: true; the input reads as it did. -/
def proofToolsSpecSpec : ChangeSpec := { name := "proofToolsSpec", fn := fun _ => fun
  | [d1, d2] => { results := [.lit (.bool true)], args := [d1, d2] }
  | _ => none }
def proofToolsSpecRow : OpenClaim := { program := "ytkeanlfhghlgiaagreatdoor", sum := "63b7d196425d0c9c9a05330eaba50a50224adb17a8ae4c0dc3abee5aa57e56ee", func := "veilstone/veilstonelaw11.ProofToolsSpec", spec := "proofToolsSpec", inPlace := ["internal/bytealg.CountString", "internal/bytealg.IndexByteString", "internal/bytealg.IndexString", "internal/bytealg.abigen_runtime_cmpstring"], unfollowed := true, recurses := true, named := ["veilstone/normal.uses", "unicode/utf8.first", "unicode/utf8.acceptRanges", "internal/bytealg.MaxLen"], plainKeys := false, apart := false, laid := [("unicode/utf8.acceptRanges", laid_unicode_utf8_acceptRanges), ("veilstone/normal.uses", laid_veilstone_normal_uses), ("unicode/utf8.first", laid_unicode_utf8_first)] }
def ProofToolsSpecSaid : Prop := proofToolsSpecRow.holds Tryz.pinned (OpenSpec.ofChange proofToolsSpecSpec)

/-- ITS FALSE NEIGHBOUR: 'it returns false'. Refute it at one input. -/
def proofToolsSpecWrong : ChangeSpec := { name := "proofToolsSpec", fn := fun _ => fun
  | [d1, d2] => { results := [.lit (.bool false)], args := [d1, d2] }
  | _ => none }
def ProofToolsSpecWrongFalsely : Prop := proofToolsSpecRow.holds Tryz.pinned (OpenSpec.ofChange proofToolsSpecWrong)

/- THE SECOND FORM. 'bulk': how many values and letters a reading holds, each counted each time it is reached (what is shared counts as often as it is met; a slice's spare places count too). A statement '..UptoSaid' is the law's where the arguments, and the package variables that the reading takes, are together of bulk at most 1048576: NARROWER than '..Said'. Prove '..Said' where nothing that the law and all that it calls make is longer than what came in: it says more and counts as full. Else prove '..UptoSaid'. A law counts once. -/
mutual
def uptoBulk {H : Type} : DataW H → Nat
  | .lit (.string bytes) => bytes.length + 1
  | .lit _ => 1
  | .nil => 1
  | .ptr d => uptoBulk d + 1
  | .slice elems spare => uptoBulkAll elems + uptoBulkAll spare + 1
  | .agg parts => uptoBulkAll parts + 1
  | .iface _ d => uptoBulk d + 1
  | .map entries => uptoBulkEntries entries + 1
  | .held _ => 1
def uptoBulkAll {H : Type} : List (DataW H) → Nat
  | [] => 0
  | d :: r => uptoBulk d + uptoBulkAll r
def uptoBulkEntries {H : Type} : List (Lit × DataW H) → Nat
  | [] => 0
  | x :: r => uptoBulkEntry x + uptoBulkEntries r
def uptoBulkEntry {H : Type} : Lit × DataW H → Nat
  | (.string bytes, d) => bytes.length + uptoBulk d + 1
  | (_, d) => uptoBulk d + 1
 end
def uptoSmall : (H : Type) → List (DataW H) → Bool := fun _ ds => decide (uptoBulkAll ds ≤ 1048576)
def OpenSpec.upto (s : _root_.Go.ChangeSpec) : _root_.Go.OpenSpec := { _root_.Go.OpenSpec.ofChange s with cond := some uptoSmall }

/-- 'veilstonelaw11.ProofFindSpec', WHERE WHAT IT READS IS OF BULK AT MOST 1048576: true; the input reads as it did. -/
def proofFindSpecUptoRow : OpenClaim := { program := "ytkeanlfhghlgiaagreatdoor", sum := "63b7d196425d0c9c9a05330eaba50a50224adb17a8ae4c0dc3abee5aa57e56ee", func := "veilstone/veilstonelaw11.ProofFindSpec", spec := "proofFindSpec", inPlace := ["internal/bytealg.CountString", "internal/bytealg.IndexByteString", "internal/bytealg.IndexString", "internal/bytealg.abigen_runtime_cmpstring"], unfollowed := true, recurses := true, named := ["veilstone/normal.uses", "unicode/utf8.first", "unicode/utf8.acceptRanges", "internal/bytealg.MaxLen"], plainKeys := false, apart := false, laid := [("unicode/utf8.acceptRanges", laid_unicode_utf8_acceptRanges), ("veilstone/normal.uses", laid_veilstone_normal_uses), ("unicode/utf8.first", laid_unicode_utf8_first)], narrowed := true }
def ProofFindSpecUptoSaid : Prop := proofFindSpecUptoRow.holds Tryz.pinned (OpenSpec.upto proofFindSpecSpec)

/-- 'veilstonelaw11.ProofComplete', WHERE WHAT IT READS IS OF BULK AT MOST 1048576: true; the input reads as it did. -/
def proofCompleteUptoRow : OpenClaim := { program := "ytkeanlfhghlgiaagreatdoor", sum := "63b7d196425d0c9c9a05330eaba50a50224adb17a8ae4c0dc3abee5aa57e56ee", func := "veilstone/veilstonelaw11.ProofComplete", spec := "proofComplete", inPlace := ["internal/bytealg.CountString", "internal/bytealg.IndexByteString", "internal/bytealg.IndexString", "internal/bytealg.abigen_runtime_cmpstring"], unfollowed := true, recurses := true, named := ["veilstone/normal.uses", "unicode/utf8.first", "unicode/utf8.acceptRanges", "internal/bytealg.MaxLen"], plainKeys := false, apart := false, laid := [("unicode/utf8.acceptRanges", laid_unicode_utf8_acceptRanges), ("veilstone/normal.uses", laid_veilstone_normal_uses), ("unicode/utf8.first", laid_unicode_utf8_first)], narrowed := true }
def ProofCompleteUptoSaid : Prop := proofCompleteUptoRow.holds Tryz.pinned (OpenSpec.upto proofCompleteSpec)

/-- 'veilstonelaw11.ProofSound', WHERE WHAT IT READS IS OF BULK AT MOST 1048576: true; the input reads as it did. -/
def proofSoundUptoRow : OpenClaim := { program := "ytkeanlfhghlgiaagreatdoor", sum := "63b7d196425d0c9c9a05330eaba50a50224adb17a8ae4c0dc3abee5aa57e56ee", func := "veilstone/veilstonelaw11.ProofSound", spec := "proofSound", inPlace := ["internal/bytealg.CountString", "internal/bytealg.IndexByteString", "internal/bytealg.IndexString", "internal/bytealg.abigen_runtime_cmpstring"], unfollowed := true, recurses := true, named := ["veilstone/normal.uses", "unicode/utf8.first", "unicode/utf8.acceptRanges", "internal/bytealg.MaxLen"], plainKeys := false, apart := false, laid := [("unicode/utf8.acceptRanges", laid_unicode_utf8_acceptRanges), ("veilstone/normal.uses", laid_veilstone_normal_uses), ("unicode/utf8.first", laid_unicode_utf8_first)], narrowed := true }
def ProofSoundUptoSaid : Prop := proofSoundUptoRow.holds Tryz.pinned (OpenSpec.upto proofSoundSpec)

/-- 'veilstonelaw11.ProofPieces', WHERE WHAT IT READS IS OF BULK AT MOST 1048576: true; the input reads as it did. -/
def proofPiecesUptoRow : OpenClaim := { program := "ytkeanlfhghlgiaagreatdoor", sum := "63b7d196425d0c9c9a05330eaba50a50224adb17a8ae4c0dc3abee5aa57e56ee", func := "veilstone/veilstonelaw11.ProofPieces", spec := "proofPieces", inPlace := ["internal/bytealg.CountString", "internal/bytealg.IndexByteString", "internal/bytealg.IndexString", "internal/bytealg.abigen_runtime_cmpstring"], unfollowed := true, recurses := true, named := ["veilstone/normal.uses", "unicode/utf8.first", "unicode/utf8.acceptRanges", "internal/bytealg.MaxLen"], plainKeys := false, apart := false, laid := [("unicode/utf8.acceptRanges", laid_unicode_utf8_acceptRanges), ("veilstone/normal.uses", laid_veilstone_normal_uses), ("unicode/utf8.first", laid_unicode_utf8_first)], narrowed := true }
def ProofPiecesUptoSaid : Prop := proofPiecesUptoRow.holds Tryz.pinned (OpenSpec.upto proofPiecesSpec)

/-- 'veilstonelaw11.ProofTrimmed', WHERE WHAT IT READS IS OF BULK AT MOST 1048576: true; the input reads as it did. -/
def proofTrimmedUptoRow : OpenClaim := { program := "ytkeanlfhghlgiaagreatdoor", sum := "63b7d196425d0c9c9a05330eaba50a50224adb17a8ae4c0dc3abee5aa57e56ee", func := "veilstone/veilstonelaw11.ProofTrimmed", spec := "proofTrimmed", inPlace := ["internal/bytealg.CountString", "internal/bytealg.IndexByteString", "internal/bytealg.IndexString", "internal/bytealg.abigen_runtime_cmpstring"], unfollowed := true, recurses := true, named := ["veilstone/normal.uses", "unicode/utf8.first", "unicode/utf8.acceptRanges", "internal/bytealg.MaxLen"], plainKeys := false, apart := false, laid := [("unicode/utf8.acceptRanges", laid_unicode_utf8_acceptRanges), ("veilstone/normal.uses", laid_veilstone_normal_uses), ("unicode/utf8.first", laid_unicode_utf8_first)], narrowed := true }
def ProofTrimmedUptoSaid : Prop := proofTrimmedUptoRow.holds Tryz.pinned (OpenSpec.upto proofTrimmedSpec)

/-- 'veilstonelaw11.ProofAxioms', WHERE WHAT IT READS IS OF BULK AT MOST 1048576: true; the input reads as it did. -/
def proofAxiomsUptoRow : OpenClaim := { program := "ytkeanlfhghlgiaagreatdoor", sum := "63b7d196425d0c9c9a05330eaba50a50224adb17a8ae4c0dc3abee5aa57e56ee", func := "veilstone/veilstonelaw11.ProofAxioms", spec := "proofAxioms", inPlace := ["internal/bytealg.CountString", "internal/bytealg.IndexByteString", "internal/bytealg.IndexString", "internal/bytealg.abigen_runtime_cmpstring"], unfollowed := true, recurses := true, named := ["veilstone/normal.uses", "unicode/utf8.first", "unicode/utf8.acceptRanges", "internal/bytealg.MaxLen"], plainKeys := false, apart := false, laid := [("unicode/utf8.acceptRanges", laid_unicode_utf8_acceptRanges), ("veilstone/normal.uses", laid_veilstone_normal_uses), ("unicode/utf8.first", laid_unicode_utf8_first)], narrowed := true }
def ProofAxiomsUptoSaid : Prop := proofAxiomsUptoRow.holds Tryz.pinned (OpenSpec.upto proofAxiomsSpec)

/-- 'veilstonelaw11.ProofToolsSpec', WHERE WHAT IT READS IS OF BULK AT MOST 1048576: true; the input reads as it did. -/
def proofToolsSpecUptoRow : OpenClaim := { program := "ytkeanlfhghlgiaagreatdoor", sum := "63b7d196425d0c9c9a05330eaba50a50224adb17a8ae4c0dc3abee5aa57e56ee", func := "veilstone/veilstonelaw11.ProofToolsSpec", spec := "proofToolsSpec", inPlace := ["internal/bytealg.CountString", "internal/bytealg.IndexByteString", "internal/bytealg.IndexString", "internal/bytealg.abigen_runtime_cmpstring"], unfollowed := true, recurses := true, named := ["veilstone/normal.uses", "unicode/utf8.first", "unicode/utf8.acceptRanges", "internal/bytealg.MaxLen"], plainKeys := false, apart := false, laid := [("unicode/utf8.acceptRanges", laid_unicode_utf8_acceptRanges), ("veilstone/normal.uses", laid_veilstone_normal_uses), ("unicode/utf8.first", laid_unicode_utf8_first)], narrowed := true }
def ProofToolsSpecUptoSaid : Prop := proofToolsSpecUptoRow.holds Tryz.pinned (OpenSpec.upto proofToolsSpecSpec)

end Rows
end Go.Proofs.YtkeanlfhghlgiaaGreatDoor
