/-
  NARROWER THAN 'FOR EVERY INPUT', by the rows' own cells (each row's printed sentence says how): SaturateAllSpec: laid · SaturateNextSpec: laid · SaturateLeast: laid · SaturateOrder: laid · IncrementStartSpec: laid · IncrementChangeSpec: laid · IncrementUndoes: laid · IncrementHistory: laid · IncrementCommutes: laid · SaturateTransitive: laid · IncrementAxioms: loops, laid · SaturateBase: loops, laid.
  DERIVED. THE GIVEN ROWS OF THIS SEAT. 12 by the template 'for every input the law returns true; each argument reads behind the call as it read before'; 0 by the template 'total and deterministic' (their statements: YtpdbbglpbngeiaaGreatDoorTotals.lean).
  GIVEN WITH THE SEED: the statements are not yours to turn. If you find one false, say at which input.
  Laid BY PROGRAM, IN A SANDBOX (cutbox-rows.mjs): the forced cells as the released guide's own fill.sh prints them over the translation 138e4f5fd6f3e6a3… (all of the seat's roots in one cut). By AI agents, Wed Nov 11 2026. No macro, syntax, notation, axiom, sorry.
-/
import Derived.Test.YtpdbbglpbngeiaaGreatDoorChecked
import GoSem.PinnedTables
import GoSem.Claim
import GoSem.ClaimJoined
import GoSem.ClaimMapViews
import Derived.JoinedTies
import Derived.KernelRfl
namespace Go.Proofs.YtpdbbglpbngeiaaGreatDoor
/- THE CELL 'sum', in the pinned program and in every row, IS THE sha256 OF THE DUMP (.gsa) THAT YtpdbbglpbngeiaaGreatDoorProg.lean LOADS. Nothing in Lean hashes anything: it is a label: what it is worth is what the hold of that sum in a sandbox is worth. -/
noncomputable def Tryz.pinned : Pinned := { name := "ytpdbbglpbngeiaagreatdoor", sum := "138e4f5fd6f3e6a3e41ba98335a0a53070c847bc9a90bb00014f7cbec34a28d6", checked := Tryz.checked }
namespace Rows
def none {H : Type} : Left H := { results := [], args := [] }

/- WHAT THE LISTED PACKAGE-LEVEL VARIABLES READ AS WHEN THE CALL BEGINS. Each datum BY PROGRAM (the guide's laid-datum.mjs) off the statement by which the dump's own 'gosem.cut.vars' lays the variable. In a bare row this is a premise. The card (YtpdbbglpbngeiaaGreatDoorCards.lean) ties it to the program's text. -/
def laid_unicode_utf8_acceptRanges {H : Type} : DataW H := .agg [.agg [.lit (.int .u8 128), .lit (.int .u8 191)], .agg [.lit (.int .u8 160), .lit (.int .u8 191)], .agg [.lit (.int .u8 128), .lit (.int .u8 159)], .agg [.lit (.int .u8 144), .lit (.int .u8 191)], .agg [.lit (.int .u8 128), .lit (.int .u8 143)], .agg [.lit (.int .u8 0), .lit (.int .u8 0)], .agg [.lit (.int .u8 0), .lit (.int .u8 0)], .agg [.lit (.int .u8 0), .lit (.int .u8 0)], .agg [.lit (.int .u8 0), .lit (.int .u8 0)], .agg [.lit (.int .u8 0), .lit (.int .u8 0)], .agg [.lit (.int .u8 0), .lit (.int .u8 0)], .agg [.lit (.int .u8 0), .lit (.int .u8 0)], .agg [.lit (.int .u8 0), .lit (.int .u8 0)], .agg [.lit (.int .u8 0), .lit (.int .u8 0)], .agg [.lit (.int .u8 0), .lit (.int .u8 0)], .agg [.lit (.int .u8 0), .lit (.int .u8 0)]]
def laid_veilstone_normal_uses {H : Type} : DataW H := .agg [.agg [.lit (.bool false), .lit (.bool false), .lit (.bool false), .lit (.bool false), .lit (.bool false), .lit (.bool false), .lit (.bool false)], .agg [.lit (.bool true), .lit (.bool false), .lit (.bool true), .lit (.bool false), .lit (.bool false), .lit (.bool false), .lit (.bool false)], .agg [.lit (.bool true), .lit (.bool true), .lit (.bool true), .lit (.bool false), .lit (.bool false), .lit (.bool false), .lit (.bool false)], .agg [.lit (.bool true), .lit (.bool false), .lit (.bool true), .lit (.bool true), .lit (.bool false), .lit (.bool false), .lit (.bool false)], .agg [.lit (.bool true), .lit (.bool false), .lit (.bool true), .lit (.bool true), .lit (.bool false), .lit (.bool false), .lit (.bool false)], .agg [.lit (.bool false), .lit (.bool false), .lit (.bool false), .lit (.bool true), .lit (.bool false), .lit (.bool true), .lit (.bool false)], .agg [.lit (.bool false), .lit (.bool false), .lit (.bool false), .lit (.bool true), .lit (.bool true), .lit (.bool true), .lit (.bool false)], .agg [.lit (.bool false), .lit (.bool false), .lit (.bool false), .lit (.bool true), .lit (.bool false), .lit (.bool false), .lit (.bool false)], .agg [.lit (.bool true), .lit (.bool false), .lit (.bool false), .lit (.bool true), .lit (.bool false), .lit (.bool false), .lit (.bool true)], .agg [.lit (.bool false), .lit (.bool false), .lit (.bool true), .lit (.bool true), .lit (.bool false), .lit (.bool false), .lit (.bool true)]]
/-- One of Go's own tables, pinned by name: the form's constant. -/
def laid_unicode_utf8_first : DataW Unit := Go.Pinned.utf8First
def laid_math_bits_deBruijn32tab {H : Type} : DataW H := .agg [.lit (.int .u8 0), .lit (.int .u8 1), .lit (.int .u8 28), .lit (.int .u8 2), .lit (.int .u8 29), .lit (.int .u8 14), .lit (.int .u8 24), .lit (.int .u8 3), .lit (.int .u8 30), .lit (.int .u8 22), .lit (.int .u8 20), .lit (.int .u8 15), .lit (.int .u8 25), .lit (.int .u8 17), .lit (.int .u8 4), .lit (.int .u8 8), .lit (.int .u8 31), .lit (.int .u8 27), .lit (.int .u8 13), .lit (.int .u8 23), .lit (.int .u8 21), .lit (.int .u8 19), .lit (.int .u8 16), .lit (.int .u8 7), .lit (.int .u8 26), .lit (.int .u8 12), .lit (.int .u8 18), .lit (.int .u8 6), .lit (.int .u8 11), .lit (.int .u8 5), .lit (.int .u8 10), .lit (.int .u8 9)]
def laid_math_bits_deBruijn64tab {H : Type} : DataW H := .agg [.lit (.int .u8 0), .lit (.int .u8 1), .lit (.int .u8 56), .lit (.int .u8 2), .lit (.int .u8 57), .lit (.int .u8 49), .lit (.int .u8 28), .lit (.int .u8 3), .lit (.int .u8 61), .lit (.int .u8 58), .lit (.int .u8 42), .lit (.int .u8 50), .lit (.int .u8 38), .lit (.int .u8 29), .lit (.int .u8 17), .lit (.int .u8 4), .lit (.int .u8 62), .lit (.int .u8 47), .lit (.int .u8 59), .lit (.int .u8 36), .lit (.int .u8 45), .lit (.int .u8 43), .lit (.int .u8 51), .lit (.int .u8 22), .lit (.int .u8 53), .lit (.int .u8 39), .lit (.int .u8 33), .lit (.int .u8 30), .lit (.int .u8 24), .lit (.int .u8 18), .lit (.int .u8 12), .lit (.int .u8 5), .lit (.int .u8 63), .lit (.int .u8 55), .lit (.int .u8 48), .lit (.int .u8 27), .lit (.int .u8 60), .lit (.int .u8 41), .lit (.int .u8 37), .lit (.int .u8 16), .lit (.int .u8 46), .lit (.int .u8 35), .lit (.int .u8 44), .lit (.int .u8 21), .lit (.int .u8 52), .lit (.int .u8 32), .lit (.int .u8 23), .lit (.int .u8 11), .lit (.int .u8 54), .lit (.int .u8 26), .lit (.int .u8 40), .lit (.int .u8 15), .lit (.int .u8 34), .lit (.int .u8 20), .lit (.int .u8 31), .lit (.int .u8 10), .lit (.int .u8 25), .lit (.int .u8 14), .lit (.int .u8 19), .lit (.int .u8 9), .lit (.int .u8 13), .lit (.int .u8 8), .lit (.int .u8 7), .lit (.int .u8 6)]
def laid_internal_strconv_uint64pow10 {H : Type} : DataW H := .agg [.lit (.int .u64 1), .lit (.int .u64 10), .lit (.int .u64 100), .lit (.int .u64 1000), .lit (.int .u64 10000), .lit (.int .u64 100000), .lit (.int .u64 1000000), .lit (.int .u64 10000000), .lit (.int .u64 100000000), .lit (.int .u64 1000000000), .lit (.int .u64 10000000000), .lit (.int .u64 100000000000), .lit (.int .u64 1000000000000), .lit (.int .u64 10000000000000), .lit (.int .u64 100000000000000), .lit (.int .u64 1000000000000000), .lit (.int .u64 10000000000000000), .lit (.int .u64 100000000000000000), .lit (.int .u64 1000000000000000000), .lit (.int .u64 10000000000000000000)]
def laid_veilstone_terms_needs {H : Type} : DataW H := .agg [.agg [.lit (.int .i64 0), .lit (.int .i64 0), .lit (.int .i64 0), .lit (.bool false)], .agg [.lit (.int .i64 0), .lit (.int .i64 0), .lit (.int .i64 0), .lit (.bool false)], .agg [.lit (.int .i64 0), .lit (.int .i64 0), .lit (.int .i64 0), .lit (.bool false)], .agg [.lit (.int .i64 1), .lit (.int .i64 0), .lit (.int .i64 0), .lit (.bool false)], .agg [.lit (.int .i64 2), .lit (.int .i64 0), .lit (.int .i64 0), .lit (.bool false)], .agg [.lit (.int .i64 0), .lit (.int .i64 2), .lit (.int .i64 8), .lit (.bool false)], .agg [.lit (.int .i64 1), .lit (.int .i64 1), .lit (.int .i64 1), .lit (.bool false)], .agg [.lit (.int .i64 1), .lit (.int .i64 0), .lit (.int .i64 0), .lit (.bool true)]]
def laid_veilstone_terms_uses {H : Type} : DataW H := .agg [.agg [.lit (.bool false), .lit (.bool false), .lit (.bool false), .lit (.bool false), .lit (.bool false), .lit (.int .i64 0), .lit (.int .i64 0)], .agg [.lit (.bool true), .lit (.bool true), .lit (.bool false), .lit (.bool false), .lit (.bool false), .lit (.int .i64 0), .lit (.int .i64 0)], .agg [.lit (.bool true), .lit (.bool true), .lit (.bool false), .lit (.bool false), .lit (.bool false), .lit (.int .i64 0), .lit (.int .i64 0)], .agg [.lit (.bool true), .lit (.bool true), .lit (.bool false), .lit (.bool false), .lit (.bool false), .lit (.int .i64 0), .lit (.int .i64 0)], .agg [.lit (.bool false), .lit (.bool true), .lit (.bool true), .lit (.bool false), .lit (.bool false), .lit (.int .i64 0), .lit (.int .i64 0)], .agg [.lit (.bool false), .lit (.bool false), .lit (.bool true), .lit (.bool false), .lit (.bool false), .lit (.int .i64 1), .lit (.int .i64 1)], .agg [.lit (.bool false), .lit (.bool false), .lit (.bool true), .lit (.bool false), .lit (.bool false), .lit (.int .i64 2), .lit (.int .i64 4)], .agg [.lit (.bool false), .lit (.bool false), .lit (.bool true), .lit (.bool false), .lit (.bool false), .lit (.int .i64 0), .lit (.int .i64 0)], .agg [.lit (.bool false), .lit (.bool true), .lit (.bool false), .lit (.bool true), .lit (.bool false), .lit (.int .i64 0), .lit (.int .i64 0)], .agg [.lit (.bool false), .lit (.bool false), .lit (.bool true), .lit (.bool true), .lit (.bool true), .lit (.int .i64 0), .lit (.int .i64 0)]]

/-- 'veilstonelaw10.SaturateAllSpec': WHATEVER THE INPUT: true; the input reads as it did. -/
def saturateAllSpecSpec : ChangeSpec := { name := "saturateAllSpec", fn := fun _ => fun
  | [d1, d2] => { results := [.lit (.bool true)], args := [d1, d2] }
  | _ => none }
def saturateAllSpecRow : OpenClaim := { program := "ytpdbbglpbngeiaagreatdoor", sum := "138e4f5fd6f3e6a3e41ba98335a0a53070c847bc9a90bb00014f7cbec34a28d6", func := "veilstone/veilstonelaw10.SaturateAllSpec", spec := "saturateAllSpec", inPlace := ["internal/bytealg.CountString", "internal/bytealg.IndexByteString", "internal/bytealg.IndexString", "internal/bytealg.abigen_runtime_cmpstring"], unfollowed := true, recurses := true, named := ["veilstone/normal.uses", "unicode/utf8.first", "unicode/utf8.acceptRanges", "internal/bytealg.MaxLen"], plainKeys := false, apart := false, laid := [("unicode/utf8.acceptRanges", laid_unicode_utf8_acceptRanges), ("veilstone/normal.uses", laid_veilstone_normal_uses), ("unicode/utf8.first", laid_unicode_utf8_first)] }
def SaturateAllSpecSaid : Prop := saturateAllSpecRow.holds Tryz.pinned (OpenSpec.ofChange saturateAllSpecSpec)

/-- ITS FALSE NEIGHBOUR: 'it returns false'. Refute it at one input. -/
def saturateAllSpecWrong : ChangeSpec := { name := "saturateAllSpec", fn := fun _ => fun
  | [d1, d2] => { results := [.lit (.bool false)], args := [d1, d2] }
  | _ => none }
def SaturateAllSpecWrongFalsely : Prop := saturateAllSpecRow.holds Tryz.pinned (OpenSpec.ofChange saturateAllSpecWrong)

/-- 'veilstonelaw10.SaturateNextSpec': WHATEVER THE INPUT: true; the input reads as it did. -/
def saturateNextSpecSpec : ChangeSpec := { name := "saturateNextSpec", fn := fun _ => fun
  | [d1, d2] => { results := [.lit (.bool true)], args := [d1, d2] }
  | _ => none }
def saturateNextSpecRow : OpenClaim := { program := "ytpdbbglpbngeiaagreatdoor", sum := "138e4f5fd6f3e6a3e41ba98335a0a53070c847bc9a90bb00014f7cbec34a28d6", func := "veilstone/veilstonelaw10.SaturateNextSpec", spec := "saturateNextSpec", inPlace := ["internal/bytealg.CountString", "internal/bytealg.IndexByteString", "internal/bytealg.IndexString", "internal/bytealg.abigen_runtime_cmpstring"], unfollowed := true, recurses := true, named := ["veilstone/normal.uses", "unicode/utf8.first", "unicode/utf8.acceptRanges", "internal/bytealg.MaxLen"], plainKeys := false, apart := false, laid := [("unicode/utf8.acceptRanges", laid_unicode_utf8_acceptRanges), ("veilstone/normal.uses", laid_veilstone_normal_uses), ("unicode/utf8.first", laid_unicode_utf8_first)] }
def SaturateNextSpecSaid : Prop := saturateNextSpecRow.holds Tryz.pinned (OpenSpec.ofChange saturateNextSpecSpec)

/-- ITS FALSE NEIGHBOUR: 'it returns false'. Refute it at one input. -/
def saturateNextSpecWrong : ChangeSpec := { name := "saturateNextSpec", fn := fun _ => fun
  | [d1, d2] => { results := [.lit (.bool false)], args := [d1, d2] }
  | _ => none }
def SaturateNextSpecWrongFalsely : Prop := saturateNextSpecRow.holds Tryz.pinned (OpenSpec.ofChange saturateNextSpecWrong)

/-- 'veilstonelaw10.SaturateLeast': WHATEVER THE INPUT: true; the input reads as it did. -/
def saturateLeastSpec : ChangeSpec := { name := "saturateLeast", fn := fun _ => fun
  | [d1, d2] => { results := [.lit (.bool true)], args := [d1, d2] }
  | _ => none }
def saturateLeastRow : OpenClaim := { program := "ytpdbbglpbngeiaagreatdoor", sum := "138e4f5fd6f3e6a3e41ba98335a0a53070c847bc9a90bb00014f7cbec34a28d6", func := "veilstone/veilstonelaw10.SaturateLeast", spec := "saturateLeast", inPlace := ["internal/bytealg.CountString", "internal/bytealg.IndexByteString", "internal/bytealg.IndexString", "internal/bytealg.abigen_runtime_cmpstring"], unfollowed := true, recurses := true, named := ["veilstone/normal.uses", "unicode/utf8.first", "unicode/utf8.acceptRanges", "internal/bytealg.MaxLen"], plainKeys := false, apart := false, laid := [("unicode/utf8.acceptRanges", laid_unicode_utf8_acceptRanges), ("veilstone/normal.uses", laid_veilstone_normal_uses), ("unicode/utf8.first", laid_unicode_utf8_first)] }
def SaturateLeastSaid : Prop := saturateLeastRow.holds Tryz.pinned (OpenSpec.ofChange saturateLeastSpec)

/-- ITS FALSE NEIGHBOUR: 'it returns false'. Refute it at one input. -/
def saturateLeastWrong : ChangeSpec := { name := "saturateLeast", fn := fun _ => fun
  | [d1, d2] => { results := [.lit (.bool false)], args := [d1, d2] }
  | _ => none }
def SaturateLeastWrongFalsely : Prop := saturateLeastRow.holds Tryz.pinned (OpenSpec.ofChange saturateLeastWrong)

/-- 'veilstonelaw10.SaturateOrder': WHATEVER THE INPUT: true; the input reads as it did. -/
def saturateOrderSpec : ChangeSpec := { name := "saturateOrder", fn := fun _ => fun
  | [d1, d2] => { results := [.lit (.bool true)], args := [d1, d2] }
  | _ => none }
def saturateOrderRow : OpenClaim := { program := "ytpdbbglpbngeiaagreatdoor", sum := "138e4f5fd6f3e6a3e41ba98335a0a53070c847bc9a90bb00014f7cbec34a28d6", func := "veilstone/veilstonelaw10.SaturateOrder", spec := "saturateOrder", inPlace := ["internal/bytealg.CountString", "internal/bytealg.IndexByteString", "internal/bytealg.IndexString", "internal/bytealg.abigen_runtime_cmpstring"], unfollowed := true, recurses := true, named := ["veilstone/normal.uses", "unicode/utf8.first", "unicode/utf8.acceptRanges", "internal/bytealg.MaxLen"], plainKeys := false, apart := false, laid := [("unicode/utf8.acceptRanges", laid_unicode_utf8_acceptRanges), ("veilstone/normal.uses", laid_veilstone_normal_uses), ("unicode/utf8.first", laid_unicode_utf8_first)] }
def SaturateOrderSaid : Prop := saturateOrderRow.holds Tryz.pinned (OpenSpec.ofChange saturateOrderSpec)

/-- ITS FALSE NEIGHBOUR: 'it returns false'. Refute it at one input. -/
def saturateOrderWrong : ChangeSpec := { name := "saturateOrder", fn := fun _ => fun
  | [d1, d2] => { results := [.lit (.bool false)], args := [d1, d2] }
  | _ => none }
def SaturateOrderWrongFalsely : Prop := saturateOrderRow.holds Tryz.pinned (OpenSpec.ofChange saturateOrderWrong)

/-- 'veilstonelaw13.IncrementStartSpec': WHATEVER THE INPUT: true; the input reads as it did. -/
def incrementStartSpecSpec : ChangeSpec := { name := "incrementStartSpec", fn := fun _ => fun
  | [d1, d2, d3] => { results := [.lit (.bool true)], args := [d1, d2, d3] }
  | _ => none }
def incrementStartSpecRow : OpenClaim := { program := "ytpdbbglpbngeiaagreatdoor", sum := "138e4f5fd6f3e6a3e41ba98335a0a53070c847bc9a90bb00014f7cbec34a28d6", func := "veilstone/veilstonelaw13.IncrementStartSpec", spec := "incrementStartSpec", inPlace := ["internal/bytealg.CountString", "internal/bytealg.IndexByteString", "internal/bytealg.IndexString", "internal/bytealg.abigen_runtime_cmpstring"], unfollowed := true, recurses := true, named := ["veilstone/normal.uses", "unicode/utf8.first", "unicode/utf8.acceptRanges", "internal/bytealg.MaxLen"], plainKeys := false, apart := false, laid := [("unicode/utf8.acceptRanges", laid_unicode_utf8_acceptRanges), ("veilstone/normal.uses", laid_veilstone_normal_uses), ("unicode/utf8.first", laid_unicode_utf8_first)] }
def IncrementStartSpecSaid : Prop := incrementStartSpecRow.holds Tryz.pinned (OpenSpec.ofChange incrementStartSpecSpec)

/-- ITS FALSE NEIGHBOUR: 'it returns false'. Refute it at one input. -/
def incrementStartSpecWrong : ChangeSpec := { name := "incrementStartSpec", fn := fun _ => fun
  | [d1, d2, d3] => { results := [.lit (.bool false)], args := [d1, d2, d3] }
  | _ => none }
def IncrementStartSpecWrongFalsely : Prop := incrementStartSpecRow.holds Tryz.pinned (OpenSpec.ofChange incrementStartSpecWrong)

/-- 'veilstonelaw13.IncrementChangeSpec': WHATEVER THE INPUT: true; the input reads as it did. -/
def incrementChangeSpecSpec : ChangeSpec := { name := "incrementChangeSpec", fn := fun _ => fun
  | [d1, d2, d3, d4] => { results := [.lit (.bool true)], args := [d1, d2, d3, d4] }
  | _ => none }
def incrementChangeSpecRow : OpenClaim := { program := "ytpdbbglpbngeiaagreatdoor", sum := "138e4f5fd6f3e6a3e41ba98335a0a53070c847bc9a90bb00014f7cbec34a28d6", func := "veilstone/veilstonelaw13.IncrementChangeSpec", spec := "incrementChangeSpec", inPlace := ["internal/bytealg.CountString", "internal/bytealg.IndexByteString", "internal/bytealg.IndexString", "internal/bytealg.abigen_runtime_cmpstring"], unfollowed := true, recurses := true, named := ["veilstone/normal.uses", "unicode/utf8.first", "unicode/utf8.acceptRanges", "internal/bytealg.MaxLen"], plainKeys := false, apart := false, laid := [("unicode/utf8.acceptRanges", laid_unicode_utf8_acceptRanges), ("veilstone/normal.uses", laid_veilstone_normal_uses), ("unicode/utf8.first", laid_unicode_utf8_first)] }
def IncrementChangeSpecSaid : Prop := incrementChangeSpecRow.holds Tryz.pinned (OpenSpec.ofChange incrementChangeSpecSpec)

/-- ITS FALSE NEIGHBOUR: 'it returns false'. Refute it at one input. -/
def incrementChangeSpecWrong : ChangeSpec := { name := "incrementChangeSpec", fn := fun _ => fun
  | [d1, d2, d3, d4] => { results := [.lit (.bool false)], args := [d1, d2, d3, d4] }
  | _ => none }
def IncrementChangeSpecWrongFalsely : Prop := incrementChangeSpecRow.holds Tryz.pinned (OpenSpec.ofChange incrementChangeSpecWrong)

/-- 'veilstonelaw13.IncrementUndoes': WHATEVER THE INPUT: true; the input reads as it did. -/
def incrementUndoesSpec : ChangeSpec := { name := "incrementUndoes", fn := fun _ => fun
  | [d1, d2] => { results := [.lit (.bool true)], args := [d1, d2] }
  | _ => none }
def incrementUndoesRow : OpenClaim := { program := "ytpdbbglpbngeiaagreatdoor", sum := "138e4f5fd6f3e6a3e41ba98335a0a53070c847bc9a90bb00014f7cbec34a28d6", func := "veilstone/veilstonelaw13.IncrementUndoes", spec := "incrementUndoes", inPlace := ["internal/bytealg.CountString", "internal/bytealg.IndexByteString", "internal/bytealg.IndexString", "internal/bytealg.abigen_runtime_cmpstring"], unfollowed := true, recurses := true, named := ["veilstone/normal.uses", "unicode/utf8.first", "unicode/utf8.acceptRanges", "internal/bytealg.MaxLen"], plainKeys := false, apart := false, laid := [("unicode/utf8.acceptRanges", laid_unicode_utf8_acceptRanges), ("veilstone/normal.uses", laid_veilstone_normal_uses), ("unicode/utf8.first", laid_unicode_utf8_first)] }
def IncrementUndoesSaid : Prop := incrementUndoesRow.holds Tryz.pinned (OpenSpec.ofChange incrementUndoesSpec)

/-- ITS FALSE NEIGHBOUR: 'it returns false'. Refute it at one input. -/
def incrementUndoesWrong : ChangeSpec := { name := "incrementUndoes", fn := fun _ => fun
  | [d1, d2] => { results := [.lit (.bool false)], args := [d1, d2] }
  | _ => none }
def IncrementUndoesWrongFalsely : Prop := incrementUndoesRow.holds Tryz.pinned (OpenSpec.ofChange incrementUndoesWrong)

/-- 'veilstonelaw13.IncrementHistory': WHATEVER THE INPUT: true; the input reads as it did. -/
def incrementHistorySpec : ChangeSpec := { name := "incrementHistory", fn := fun _ => fun
  | [d] => { results := [.lit (.bool true)], args := [d] }
  | _ => none }
def incrementHistoryRow : OpenClaim := { program := "ytpdbbglpbngeiaagreatdoor", sum := "138e4f5fd6f3e6a3e41ba98335a0a53070c847bc9a90bb00014f7cbec34a28d6", func := "veilstone/veilstonelaw13.IncrementHistory", spec := "incrementHistory", inPlace := ["internal/bytealg.CountString", "internal/bytealg.IndexByteString", "internal/bytealg.IndexString", "internal/bytealg.abigen_runtime_cmpstring"], unfollowed := true, recurses := true, named := ["veilstone/normal.uses", "unicode/utf8.first", "unicode/utf8.acceptRanges", "internal/bytealg.MaxLen"], plainKeys := false, apart := false, laid := [("unicode/utf8.acceptRanges", laid_unicode_utf8_acceptRanges), ("veilstone/normal.uses", laid_veilstone_normal_uses), ("unicode/utf8.first", laid_unicode_utf8_first)] }
def IncrementHistorySaid : Prop := incrementHistoryRow.holds Tryz.pinned (OpenSpec.ofChange incrementHistorySpec)

/-- ITS FALSE NEIGHBOUR: 'it returns false'. Refute it at one input. -/
def incrementHistoryWrong : ChangeSpec := { name := "incrementHistory", fn := fun _ => fun
  | [d] => { results := [.lit (.bool false)], args := [d] }
  | _ => none }
def IncrementHistoryWrongFalsely : Prop := incrementHistoryRow.holds Tryz.pinned (OpenSpec.ofChange incrementHistoryWrong)

/-- 'veilstonelaw13.IncrementCommutes': WHATEVER THE INPUT: true; the input reads as it did. -/
def incrementCommutesSpec : ChangeSpec := { name := "incrementCommutes", fn := fun _ => fun
  | [d1, d2, d3] => { results := [.lit (.bool true)], args := [d1, d2, d3] }
  | _ => none }
def incrementCommutesRow : OpenClaim := { program := "ytpdbbglpbngeiaagreatdoor", sum := "138e4f5fd6f3e6a3e41ba98335a0a53070c847bc9a90bb00014f7cbec34a28d6", func := "veilstone/veilstonelaw13.IncrementCommutes", spec := "incrementCommutes", inPlace := ["internal/bytealg.CountString", "internal/bytealg.IndexByteString", "internal/bytealg.IndexString", "internal/bytealg.abigen_runtime_cmpstring"], unfollowed := true, recurses := true, named := ["veilstone/normal.uses", "unicode/utf8.first", "unicode/utf8.acceptRanges", "internal/bytealg.MaxLen"], plainKeys := false, apart := false, laid := [("unicode/utf8.acceptRanges", laid_unicode_utf8_acceptRanges), ("veilstone/normal.uses", laid_veilstone_normal_uses), ("unicode/utf8.first", laid_unicode_utf8_first)] }
def IncrementCommutesSaid : Prop := incrementCommutesRow.holds Tryz.pinned (OpenSpec.ofChange incrementCommutesSpec)

/-- ITS FALSE NEIGHBOUR: 'it returns false'. Refute it at one input. -/
def incrementCommutesWrong : ChangeSpec := { name := "incrementCommutes", fn := fun _ => fun
  | [d1, d2, d3] => { results := [.lit (.bool false)], args := [d1, d2, d3] }
  | _ => none }
def IncrementCommutesWrongFalsely : Prop := incrementCommutesRow.holds Tryz.pinned (OpenSpec.ofChange incrementCommutesWrong)

/-- 'veilstonelaw10.SaturateTransitive': WHATEVER THE INPUT: true; the input reads as it did. -/
def saturateTransitiveSpec : ChangeSpec := { name := "saturateTransitive", fn := fun _ => fun
  | [d] => { results := [.lit (.bool true)], args := [d] }
  | _ => none }
def saturateTransitiveRow : OpenClaim := { program := "ytpdbbglpbngeiaagreatdoor", sum := "138e4f5fd6f3e6a3e41ba98335a0a53070c847bc9a90bb00014f7cbec34a28d6", func := "veilstone/veilstonelaw10.SaturateTransitive", spec := "saturateTransitive", inPlace := ["internal/bytealg.CountString", "internal/bytealg.IndexByteString", "internal/bytealg.IndexString", "internal/bytealg.abigen_runtime_cmpstring"], unfollowed := true, recurses := true, named := ["veilstone/normal.uses", "unicode/utf8.first", "unicode/utf8.acceptRanges", "internal/bytealg.MaxLen"], plainKeys := false, apart := false, laid := [("unicode/utf8.acceptRanges", laid_unicode_utf8_acceptRanges), ("veilstone/normal.uses", laid_veilstone_normal_uses), ("unicode/utf8.first", laid_unicode_utf8_first)] }
def SaturateTransitiveSaid : Prop := saturateTransitiveRow.holds Tryz.pinned (OpenSpec.ofChange saturateTransitiveSpec)

/-- ITS FALSE NEIGHBOUR: 'it returns false'. Refute it at one input. -/
def saturateTransitiveWrong : ChangeSpec := { name := "saturateTransitive", fn := fun _ => fun
  | [d] => { results := [.lit (.bool false)], args := [d] }
  | _ => none }
def SaturateTransitiveWrongFalsely : Prop := saturateTransitiveRow.holds Tryz.pinned (OpenSpec.ofChange saturateTransitiveWrong)

/-- 'veilstonelaw13.IncrementAxioms': WHATEVER THE INPUT: true; the input reads as it did. -/
def incrementAxiomsSpec : ChangeSpec := { name := "incrementAxioms", fn := fun _ => fun
  | [d1, d2] => { results := [.lit (.bool true)], args := [d1, d2] }
  | _ => none }
def incrementAxiomsRow : OpenClaim := { program := "ytpdbbglpbngeiaagreatdoor", sum := "138e4f5fd6f3e6a3e41ba98335a0a53070c847bc9a90bb00014f7cbec34a28d6", func := "veilstone/veilstonelaw13.IncrementAxioms", spec := "incrementAxioms", inPlace := ["internal/bytealg.CountString", "internal/bytealg.IndexByteString", "internal/bytealg.IndexString", "internal/bytealg.abigen_runtime_cmpstring", "internal/abi.NoEscape", "internal/bytealg.MakeNoZero"], unfollowed := true, recurses := true, named := ["veilstone/normal.uses", "unicode/utf8.first", "unicode/utf8.acceptRanges", "internal/bytealg.MaxLen", "veilstone/terms.uses", "veilstone/terms.needs", "internal/strconv.uint64pow10", "math/bits.deBruijn32tab", "math/bits.deBruijn64tab"], loops := true, plainKeys := false, apart := false, laid := [("math/bits.deBruijn32tab", laid_math_bits_deBruijn32tab), ("math/bits.deBruijn64tab", laid_math_bits_deBruijn64tab), ("internal/strconv.uint64pow10", laid_internal_strconv_uint64pow10), ("unicode/utf8.acceptRanges", laid_unicode_utf8_acceptRanges), ("veilstone/terms.needs", laid_veilstone_terms_needs), ("veilstone/terms.uses", laid_veilstone_terms_uses), ("veilstone/normal.uses", laid_veilstone_normal_uses), ("unicode/utf8.first", laid_unicode_utf8_first)] }
def IncrementAxiomsSaid : Prop := incrementAxiomsRow.holds Tryz.pinned (OpenSpec.ofChange incrementAxiomsSpec)

/-- ITS FALSE NEIGHBOUR: 'it returns false'. Refute it at one input. -/
def incrementAxiomsWrong : ChangeSpec := { name := "incrementAxioms", fn := fun _ => fun
  | [d1, d2] => { results := [.lit (.bool false)], args := [d1, d2] }
  | _ => none }
def IncrementAxiomsWrongFalsely : Prop := incrementAxiomsRow.holds Tryz.pinned (OpenSpec.ofChange incrementAxiomsWrong)

/-- 'veilstonelaw10.SaturateBase': WHATEVER THE INPUT: true; the input reads as it did. -/
def saturateBaseSpec : ChangeSpec := { name := "saturateBase", fn := fun _ => fun
  | [d] => { results := [.lit (.bool true)], args := [d] }
  | _ => none }
def saturateBaseRow : OpenClaim := { program := "ytpdbbglpbngeiaagreatdoor", sum := "138e4f5fd6f3e6a3e41ba98335a0a53070c847bc9a90bb00014f7cbec34a28d6", func := "veilstone/veilstonelaw10.SaturateBase", spec := "saturateBase", inPlace := ["internal/bytealg.CountString", "internal/bytealg.IndexByteString", "internal/bytealg.IndexString", "internal/bytealg.abigen_runtime_cmpstring", "internal/abi.NoEscape", "internal/bytealg.MakeNoZero"], unfollowed := true, recurses := true, named := ["veilstone/normal.uses", "unicode/utf8.first", "unicode/utf8.acceptRanges", "internal/bytealg.MaxLen", "veilstone/terms.uses", "veilstone/terms.needs", "internal/strconv.uint64pow10", "math/bits.deBruijn32tab", "math/bits.deBruijn64tab"], loops := true, plainKeys := false, apart := false, laid := [("math/bits.deBruijn32tab", laid_math_bits_deBruijn32tab), ("math/bits.deBruijn64tab", laid_math_bits_deBruijn64tab), ("internal/strconv.uint64pow10", laid_internal_strconv_uint64pow10), ("unicode/utf8.acceptRanges", laid_unicode_utf8_acceptRanges), ("veilstone/terms.needs", laid_veilstone_terms_needs), ("veilstone/terms.uses", laid_veilstone_terms_uses), ("veilstone/normal.uses", laid_veilstone_normal_uses), ("unicode/utf8.first", laid_unicode_utf8_first)] }
def SaturateBaseSaid : Prop := saturateBaseRow.holds Tryz.pinned (OpenSpec.ofChange saturateBaseSpec)

/-- ITS FALSE NEIGHBOUR: 'it returns false'. Refute it at one input. -/
def saturateBaseWrong : ChangeSpec := { name := "saturateBase", fn := fun _ => fun
  | [d] => { results := [.lit (.bool false)], args := [d] }
  | _ => none }
def SaturateBaseWrongFalsely : Prop := saturateBaseRow.holds Tryz.pinned (OpenSpec.ofChange saturateBaseWrong)

/- THE SECOND FORM. 'bulk': how many values and letters a reading holds, each counted each time it is reached (what is shared counts as often as it is met; a slice's spare places count too). A statement '..UptoSaid' is the law's where the arguments, and the package variables that the reading takes, are together of bulk at most 1048576: NARROWER than '..Said'. Prove '..Said' where nothing that the law and all that it calls make is longer than what came in: it says more and counts as full. Else prove '..UptoSaid'. A law counts once. -/
mutual
def uptoBulk {H : Type} : DataW H → Nat
  | .lit (.string bytes) => bytes.length + 1
  | .lit _ => 1
  | .nil => 1
  | .ptr d => uptoBulk d + 1
  | .slice elems spare => uptoBulkAll elems + uptoBulkAll spare + 1
  | .agg parts => uptoBulkAll parts + 1
  | .iface _ d => uptoBulk d + 1
  | .map entries => uptoBulkEntries entries + 1
  | .held _ => 1
def uptoBulkAll {H : Type} : List (DataW H) → Nat
  | [] => 0
  | d :: r => uptoBulk d + uptoBulkAll r
def uptoBulkEntries {H : Type} : List (Lit × DataW H) → Nat
  | [] => 0
  | x :: r => uptoBulkEntry x + uptoBulkEntries r
def uptoBulkEntry {H : Type} : Lit × DataW H → Nat
  | (.string bytes, d) => bytes.length + uptoBulk d + 1
  | (_, d) => uptoBulk d + 1
 end
def uptoSmall : (H : Type) → List (DataW H) → Bool := fun _ ds => decide (uptoBulkAll ds ≤ 1048576)
def OpenSpec.upto (s : _root_.Go.ChangeSpec) : _root_.Go.OpenSpec := { _root_.Go.OpenSpec.ofChange s with cond := some uptoSmall }

/-- 'veilstonelaw10.SaturateAllSpec', WHERE WHAT IT READS IS OF BULK AT MOST 1048576: true; the input reads as it did. -/
def saturateAllSpecUptoRow : OpenClaim := { program := "ytpdbbglpbngeiaagreatdoor", sum := "138e4f5fd6f3e6a3e41ba98335a0a53070c847bc9a90bb00014f7cbec34a28d6", func := "veilstone/veilstonelaw10.SaturateAllSpec", spec := "saturateAllSpec", inPlace := ["internal/bytealg.CountString", "internal/bytealg.IndexByteString", "internal/bytealg.IndexString", "internal/bytealg.abigen_runtime_cmpstring"], unfollowed := true, recurses := true, named := ["veilstone/normal.uses", "unicode/utf8.first", "unicode/utf8.acceptRanges", "internal/bytealg.MaxLen"], plainKeys := false, apart := false, laid := [("unicode/utf8.acceptRanges", laid_unicode_utf8_acceptRanges), ("veilstone/normal.uses", laid_veilstone_normal_uses), ("unicode/utf8.first", laid_unicode_utf8_first)], narrowed := true }
def SaturateAllSpecUptoSaid : Prop := saturateAllSpecUptoRow.holds Tryz.pinned (OpenSpec.upto saturateAllSpecSpec)

/-- 'veilstonelaw10.SaturateNextSpec', WHERE WHAT IT READS IS OF BULK AT MOST 1048576: true; the input reads as it did. -/
def saturateNextSpecUptoRow : OpenClaim := { program := "ytpdbbglpbngeiaagreatdoor", sum := "138e4f5fd6f3e6a3e41ba98335a0a53070c847bc9a90bb00014f7cbec34a28d6", func := "veilstone/veilstonelaw10.SaturateNextSpec", spec := "saturateNextSpec", inPlace := ["internal/bytealg.CountString", "internal/bytealg.IndexByteString", "internal/bytealg.IndexString", "internal/bytealg.abigen_runtime_cmpstring"], unfollowed := true, recurses := true, named := ["veilstone/normal.uses", "unicode/utf8.first", "unicode/utf8.acceptRanges", "internal/bytealg.MaxLen"], plainKeys := false, apart := false, laid := [("unicode/utf8.acceptRanges", laid_unicode_utf8_acceptRanges), ("veilstone/normal.uses", laid_veilstone_normal_uses), ("unicode/utf8.first", laid_unicode_utf8_first)], narrowed := true }
def SaturateNextSpecUptoSaid : Prop := saturateNextSpecUptoRow.holds Tryz.pinned (OpenSpec.upto saturateNextSpecSpec)

/-- 'veilstonelaw10.SaturateLeast', WHERE WHAT IT READS IS OF BULK AT MOST 1048576: true; the input reads as it did. -/
def saturateLeastUptoRow : OpenClaim := { program := "ytpdbbglpbngeiaagreatdoor", sum := "138e4f5fd6f3e6a3e41ba98335a0a53070c847bc9a90bb00014f7cbec34a28d6", func := "veilstone/veilstonelaw10.SaturateLeast", spec := "saturateLeast", inPlace := ["internal/bytealg.CountString", "internal/bytealg.IndexByteString", "internal/bytealg.IndexString", "internal/bytealg.abigen_runtime_cmpstring"], unfollowed := true, recurses := true, named := ["veilstone/normal.uses", "unicode/utf8.first", "unicode/utf8.acceptRanges", "internal/bytealg.MaxLen"], plainKeys := false, apart := false, laid := [("unicode/utf8.acceptRanges", laid_unicode_utf8_acceptRanges), ("veilstone/normal.uses", laid_veilstone_normal_uses), ("unicode/utf8.first", laid_unicode_utf8_first)], narrowed := true }
def SaturateLeastUptoSaid : Prop := saturateLeastUptoRow.holds Tryz.pinned (OpenSpec.upto saturateLeastSpec)

/-- 'veilstonelaw10.SaturateOrder', WHERE WHAT IT READS IS OF BULK AT MOST 1048576: true; the input reads as it did. -/
def saturateOrderUptoRow : OpenClaim := { program := "ytpdbbglpbngeiaagreatdoor", sum := "138e4f5fd6f3e6a3e41ba98335a0a53070c847bc9a90bb00014f7cbec34a28d6", func := "veilstone/veilstonelaw10.SaturateOrder", spec := "saturateOrder", inPlace := ["internal/bytealg.CountString", "internal/bytealg.IndexByteString", "internal/bytealg.IndexString", "internal/bytealg.abigen_runtime_cmpstring"], unfollowed := true, recurses := true, named := ["veilstone/normal.uses", "unicode/utf8.first", "unicode/utf8.acceptRanges", "internal/bytealg.MaxLen"], plainKeys := false, apart := false, laid := [("unicode/utf8.acceptRanges", laid_unicode_utf8_acceptRanges), ("veilstone/normal.uses", laid_veilstone_normal_uses), ("unicode/utf8.first", laid_unicode_utf8_first)], narrowed := true }
def SaturateOrderUptoSaid : Prop := saturateOrderUptoRow.holds Tryz.pinned (OpenSpec.upto saturateOrderSpec)

/-- 'veilstonelaw13.IncrementStartSpec', WHERE WHAT IT READS IS OF BULK AT MOST 1048576: true; the input reads as it did. -/
def incrementStartSpecUptoRow : OpenClaim := { program := "ytpdbbglpbngeiaagreatdoor", sum := "138e4f5fd6f3e6a3e41ba98335a0a53070c847bc9a90bb00014f7cbec34a28d6", func := "veilstone/veilstonelaw13.IncrementStartSpec", spec := "incrementStartSpec", inPlace := ["internal/bytealg.CountString", "internal/bytealg.IndexByteString", "internal/bytealg.IndexString", "internal/bytealg.abigen_runtime_cmpstring"], unfollowed := true, recurses := true, named := ["veilstone/normal.uses", "unicode/utf8.first", "unicode/utf8.acceptRanges", "internal/bytealg.MaxLen"], plainKeys := false, apart := false, laid := [("unicode/utf8.acceptRanges", laid_unicode_utf8_acceptRanges), ("veilstone/normal.uses", laid_veilstone_normal_uses), ("unicode/utf8.first", laid_unicode_utf8_first)], narrowed := true }
def IncrementStartSpecUptoSaid : Prop := incrementStartSpecUptoRow.holds Tryz.pinned (OpenSpec.upto incrementStartSpecSpec)

/-- 'veilstonelaw13.IncrementChangeSpec', WHERE WHAT IT READS IS OF BULK AT MOST 1048576: true; the input reads as it did. -/
def incrementChangeSpecUptoRow : OpenClaim := { program := "ytpdbbglpbngeiaagreatdoor", sum := "138e4f5fd6f3e6a3e41ba98335a0a53070c847bc9a90bb00014f7cbec34a28d6", func := "veilstone/veilstonelaw13.IncrementChangeSpec", spec := "incrementChangeSpec", inPlace := ["internal/bytealg.CountString", "internal/bytealg.IndexByteString", "internal/bytealg.IndexString", "internal/bytealg.abigen_runtime_cmpstring"], unfollowed := true, recurses := true, named := ["veilstone/normal.uses", "unicode/utf8.first", "unicode/utf8.acceptRanges", "internal/bytealg.MaxLen"], plainKeys := false, apart := false, laid := [("unicode/utf8.acceptRanges", laid_unicode_utf8_acceptRanges), ("veilstone/normal.uses", laid_veilstone_normal_uses), ("unicode/utf8.first", laid_unicode_utf8_first)], narrowed := true }
def IncrementChangeSpecUptoSaid : Prop := incrementChangeSpecUptoRow.holds Tryz.pinned (OpenSpec.upto incrementChangeSpecSpec)

/-- 'veilstonelaw13.IncrementUndoes', WHERE WHAT IT READS IS OF BULK AT MOST 1048576: true; the input reads as it did. -/
def incrementUndoesUptoRow : OpenClaim := { program := "ytpdbbglpbngeiaagreatdoor", sum := "138e4f5fd6f3e6a3e41ba98335a0a53070c847bc9a90bb00014f7cbec34a28d6", func := "veilstone/veilstonelaw13.IncrementUndoes", spec := "incrementUndoes", inPlace := ["internal/bytealg.CountString", "internal/bytealg.IndexByteString", "internal/bytealg.IndexString", "internal/bytealg.abigen_runtime_cmpstring"], unfollowed := true, recurses := true, named := ["veilstone/normal.uses", "unicode/utf8.first", "unicode/utf8.acceptRanges", "internal/bytealg.MaxLen"], plainKeys := false, apart := false, laid := [("unicode/utf8.acceptRanges", laid_unicode_utf8_acceptRanges), ("veilstone/normal.uses", laid_veilstone_normal_uses), ("unicode/utf8.first", laid_unicode_utf8_first)], narrowed := true }
def IncrementUndoesUptoSaid : Prop := incrementUndoesUptoRow.holds Tryz.pinned (OpenSpec.upto incrementUndoesSpec)

/-- 'veilstonelaw13.IncrementHistory', WHERE WHAT IT READS IS OF BULK AT MOST 1048576: true; the input reads as it did. -/
def incrementHistoryUptoRow : OpenClaim := { program := "ytpdbbglpbngeiaagreatdoor", sum := "138e4f5fd6f3e6a3e41ba98335a0a53070c847bc9a90bb00014f7cbec34a28d6", func := "veilstone/veilstonelaw13.IncrementHistory", spec := "incrementHistory", inPlace := ["internal/bytealg.CountString", "internal/bytealg.IndexByteString", "internal/bytealg.IndexString", "internal/bytealg.abigen_runtime_cmpstring"], unfollowed := true, recurses := true, named := ["veilstone/normal.uses", "unicode/utf8.first", "unicode/utf8.acceptRanges", "internal/bytealg.MaxLen"], plainKeys := false, apart := false, laid := [("unicode/utf8.acceptRanges", laid_unicode_utf8_acceptRanges), ("veilstone/normal.uses", laid_veilstone_normal_uses), ("unicode/utf8.first", laid_unicode_utf8_first)], narrowed := true }
def IncrementHistoryUptoSaid : Prop := incrementHistoryUptoRow.holds Tryz.pinned (OpenSpec.upto incrementHistorySpec)

/-- 'veilstonelaw13.IncrementCommutes', WHERE WHAT IT READS IS OF BULK AT MOST 1048576: true; the input reads as it did. -/
def incrementCommutesUptoRow : OpenClaim := { program := "ytpdbbglpbngeiaagreatdoor", sum := "138e4f5fd6f3e6a3e41ba98335a0a53070c847bc9a90bb00014f7cbec34a28d6", func := "veilstone/veilstonelaw13.IncrementCommutes", spec := "incrementCommutes", inPlace := ["internal/bytealg.CountString", "internal/bytealg.IndexByteString", "internal/bytealg.IndexString", "internal/bytealg.abigen_runtime_cmpstring"], unfollowed := true, recurses := true, named := ["veilstone/normal.uses", "unicode/utf8.first", "unicode/utf8.acceptRanges", "internal/bytealg.MaxLen"], plainKeys := false, apart := false, laid := [("unicode/utf8.acceptRanges", laid_unicode_utf8_acceptRanges), ("veilstone/normal.uses", laid_veilstone_normal_uses), ("unicode/utf8.first", laid_unicode_utf8_first)], narrowed := true }
def IncrementCommutesUptoSaid : Prop := incrementCommutesUptoRow.holds Tryz.pinned (OpenSpec.upto incrementCommutesSpec)

/-- 'veilstonelaw10.SaturateTransitive', WHERE WHAT IT READS IS OF BULK AT MOST 1048576: true; the input reads as it did. -/
def saturateTransitiveUptoRow : OpenClaim := { program := "ytpdbbglpbngeiaagreatdoor", sum := "138e4f5fd6f3e6a3e41ba98335a0a53070c847bc9a90bb00014f7cbec34a28d6", func := "veilstone/veilstonelaw10.SaturateTransitive", spec := "saturateTransitive", inPlace := ["internal/bytealg.CountString", "internal/bytealg.IndexByteString", "internal/bytealg.IndexString", "internal/bytealg.abigen_runtime_cmpstring"], unfollowed := true, recurses := true, named := ["veilstone/normal.uses", "unicode/utf8.first", "unicode/utf8.acceptRanges", "internal/bytealg.MaxLen"], plainKeys := false, apart := false, laid := [("unicode/utf8.acceptRanges", laid_unicode_utf8_acceptRanges), ("veilstone/normal.uses", laid_veilstone_normal_uses), ("unicode/utf8.first", laid_unicode_utf8_first)], narrowed := true }
def SaturateTransitiveUptoSaid : Prop := saturateTransitiveUptoRow.holds Tryz.pinned (OpenSpec.upto saturateTransitiveSpec)

/-- 'veilstonelaw13.IncrementAxioms', WHERE WHAT IT READS IS OF BULK AT MOST 1048576: true; the input reads as it did. -/
def incrementAxiomsUptoRow : OpenClaim := { program := "ytpdbbglpbngeiaagreatdoor", sum := "138e4f5fd6f3e6a3e41ba98335a0a53070c847bc9a90bb00014f7cbec34a28d6", func := "veilstone/veilstonelaw13.IncrementAxioms", spec := "incrementAxioms", inPlace := ["internal/bytealg.CountString", "internal/bytealg.IndexByteString", "internal/bytealg.IndexString", "internal/bytealg.abigen_runtime_cmpstring", "internal/abi.NoEscape", "internal/bytealg.MakeNoZero"], unfollowed := true, recurses := true, named := ["veilstone/normal.uses", "unicode/utf8.first", "unicode/utf8.acceptRanges", "internal/bytealg.MaxLen", "veilstone/terms.uses", "veilstone/terms.needs", "internal/strconv.uint64pow10", "math/bits.deBruijn32tab", "math/bits.deBruijn64tab"], loops := true, plainKeys := false, apart := false, laid := [("math/bits.deBruijn32tab", laid_math_bits_deBruijn32tab), ("math/bits.deBruijn64tab", laid_math_bits_deBruijn64tab), ("internal/strconv.uint64pow10", laid_internal_strconv_uint64pow10), ("unicode/utf8.acceptRanges", laid_unicode_utf8_acceptRanges), ("veilstone/terms.needs", laid_veilstone_terms_needs), ("veilstone/terms.uses", laid_veilstone_terms_uses), ("veilstone/normal.uses", laid_veilstone_normal_uses), ("unicode/utf8.first", laid_unicode_utf8_first)], narrowed := true }
def IncrementAxiomsUptoSaid : Prop := incrementAxiomsUptoRow.holds Tryz.pinned (OpenSpec.upto incrementAxiomsSpec)

/-- 'veilstonelaw10.SaturateBase', WHERE WHAT IT READS IS OF BULK AT MOST 1048576: true; the input reads as it did. -/
def saturateBaseUptoRow : OpenClaim := { program := "ytpdbbglpbngeiaagreatdoor", sum := "138e4f5fd6f3e6a3e41ba98335a0a53070c847bc9a90bb00014f7cbec34a28d6", func := "veilstone/veilstonelaw10.SaturateBase", spec := "saturateBase", inPlace := ["internal/bytealg.CountString", "internal/bytealg.IndexByteString", "internal/bytealg.IndexString", "internal/bytealg.abigen_runtime_cmpstring", "internal/abi.NoEscape", "internal/bytealg.MakeNoZero"], unfollowed := true, recurses := true, named := ["veilstone/normal.uses", "unicode/utf8.first", "unicode/utf8.acceptRanges", "internal/bytealg.MaxLen", "veilstone/terms.uses", "veilstone/terms.needs", "internal/strconv.uint64pow10", "math/bits.deBruijn32tab", "math/bits.deBruijn64tab"], loops := true, plainKeys := false, apart := false, laid := [("math/bits.deBruijn32tab", laid_math_bits_deBruijn32tab), ("math/bits.deBruijn64tab", laid_math_bits_deBruijn64tab), ("internal/strconv.uint64pow10", laid_internal_strconv_uint64pow10), ("unicode/utf8.acceptRanges", laid_unicode_utf8_acceptRanges), ("veilstone/terms.needs", laid_veilstone_terms_needs), ("veilstone/terms.uses", laid_veilstone_terms_uses), ("veilstone/normal.uses", laid_veilstone_normal_uses), ("unicode/utf8.first", laid_unicode_utf8_first)], narrowed := true }
def SaturateBaseUptoSaid : Prop := saturateBaseUptoRow.holds Tryz.pinned (OpenSpec.upto saturateBaseSpec)

end Rows
end Go.Proofs.YtpdbbglpbngeiaaGreatDoor
