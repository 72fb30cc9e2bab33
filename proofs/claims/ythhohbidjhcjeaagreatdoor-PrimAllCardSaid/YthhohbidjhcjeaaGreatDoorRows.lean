/-
  NARROWER THAN 'FOR EVERY INPUT', by the rows' own cells (each row's printed sentence says how): PrimTells: laid · PrimAll: laid · PrimTree: laid · PrimCounts: laid · PrimAdds: laid · PrimLines: laid · PrimMoves: laid · InvertUndoes: laid · InvertAll: laid · CommuteTree: laid · CommutePast: laid · RecordSteps: laid · RecordEmpty: laid · SeqSwaps: laid · SeqLast: laid · SeqJoins: laid · RecordMakes: laid.
  DERIVED. THE GIVEN ROWS OF THIS SEAT. 17 by the template 'for every input the law returns true; each argument reads behind the call as it read before'; 0 by the template 'total and deterministic' (their statements: YthhohbidjhcjeaaGreatDoorTotals.lean).
  GIVEN WITH THE SEED: the statements are not yours to turn. If you find one false, say at which input.
  Laid BY PROGRAM, IN A SANDBOX (cutbox-rows.mjs): the forced cells as the released guide's own fill.sh prints them over the translation 79d1c4f72d4bbd87… (all of the seat's roots in one cut). By AI agents, Wed Nov 11 2026. No macro, syntax, notation, axiom, sorry.
-/
import Derived.Test.YthhohbidjhcjeaaGreatDoorChecked
import GoSem.PinnedTables
import GoSem.Claim
import GoSem.ClaimJoined
import GoSem.ClaimMapViews
import Derived.JoinedTies
import Derived.KernelRfl
namespace Go.Proofs.YthhohbidjhcjeaaGreatDoor
/- THE CELL 'sum', in the pinned program and in every row, IS THE sha256 OF THE DUMP (.gsa) THAT YthhohbidjhcjeaaGreatDoorProg.lean LOADS. Nothing in Lean hashes anything: it is a label: what it is worth is what the hold of that sum in a sandbox is worth. -/
noncomputable def Tryz.pinned : Pinned := { name := "ythhohbidjhcjeaagreatdoor", sum := "79d1c4f72d4bbd8770e6e202679bca5f8901df12a5ae32b7fbf740cc7424a8d3", checked := Tryz.checked }
namespace Rows
def none {H : Type} : Left H := { results := [], args := [] }

/- WHAT THE LISTED PACKAGE-LEVEL VARIABLES READ AS WHEN THE CALL BEGINS. Each datum BY PROGRAM (the guide's laid-datum.mjs) off the statement by which the dump's own 'gosem.cut.vars' lays the variable. In a bare row this is a premise. The card (YthhohbidjhcjeaaGreatDoorCards.lean) ties it to the program's text. -/
def laid_unicode_utf8_acceptRanges {H : Type} : DataW H := .agg [.agg [.lit (.int .u8 128), .lit (.int .u8 191)], .agg [.lit (.int .u8 160), .lit (.int .u8 191)], .agg [.lit (.int .u8 128), .lit (.int .u8 159)], .agg [.lit (.int .u8 144), .lit (.int .u8 191)], .agg [.lit (.int .u8 128), .lit (.int .u8 143)], .agg [.lit (.int .u8 0), .lit (.int .u8 0)], .agg [.lit (.int .u8 0), .lit (.int .u8 0)], .agg [.lit (.int .u8 0), .lit (.int .u8 0)], .agg [.lit (.int .u8 0), .lit (.int .u8 0)], .agg [.lit (.int .u8 0), .lit (.int .u8 0)], .agg [.lit (.int .u8 0), .lit (.int .u8 0)], .agg [.lit (.int .u8 0), .lit (.int .u8 0)], .agg [.lit (.int .u8 0), .lit (.int .u8 0)], .agg [.lit (.int .u8 0), .lit (.int .u8 0)], .agg [.lit (.int .u8 0), .lit (.int .u8 0)], .agg [.lit (.int .u8 0), .lit (.int .u8 0)]]
/-- One of Go's own tables, pinned by name: the form's constant. -/
def laid_unicode_utf8_first : DataW Unit := Go.Pinned.utf8First

/-- 'counterpanelaw08.PrimTells': WHATEVER THE INPUT: true; the input reads as it did. -/
def primTellsSpec : ChangeSpec := { name := "primTells", fn := fun _ => fun
  | [d1, d2] => { results := [.lit (.bool true)], args := [d1, d2] }
  | _ => none }
def primTellsRow : OpenClaim := { program := "ythhohbidjhcjeaagreatdoor", sum := "79d1c4f72d4bbd8770e6e202679bca5f8901df12a5ae32b7fbf740cc7424a8d3", func := "counterpane/counterpanelaw08.PrimTells", spec := "primTells", inPlace := ["internal/bytealg.IndexByteString", "internal/bytealg.IndexString", "internal/bytealg.abigen_runtime_cmpstring", "internal/abi.NoEscape", "slices.overlaps[counterpane/api.Entry]"], unfollowed := true, recurses := true, named := ["unicode/utf8.first", "unicode/utf8.acceptRanges", "internal/bytealg.MaxLen"], apart := false, laid := [("unicode/utf8.acceptRanges", laid_unicode_utf8_acceptRanges), ("unicode/utf8.first", laid_unicode_utf8_first)] }
def PrimTellsSaid : Prop := primTellsRow.holds Tryz.pinned (OpenSpec.ofChange primTellsSpec)

/-- ITS FALSE NEIGHBOUR: 'it returns false'. Refute it at one input. -/
def primTellsWrong : ChangeSpec := { name := "primTells", fn := fun _ => fun
  | [d1, d2] => { results := [.lit (.bool false)], args := [d1, d2] }
  | _ => none }
def PrimTellsWrongFalsely : Prop := primTellsRow.holds Tryz.pinned (OpenSpec.ofChange primTellsWrong)

/-- 'counterpanelaw08.PrimAll': WHATEVER THE INPUT: true; the input reads as it did. -/
def primAllSpec : ChangeSpec := { name := "primAll", fn := fun _ => fun
  | [d1, d2] => { results := [.lit (.bool true)], args := [d1, d2] }
  | _ => none }
def primAllRow : OpenClaim := { program := "ythhohbidjhcjeaagreatdoor", sum := "79d1c4f72d4bbd8770e6e202679bca5f8901df12a5ae32b7fbf740cc7424a8d3", func := "counterpane/counterpanelaw08.PrimAll", spec := "primAll", inPlace := ["internal/bytealg.IndexByteString", "internal/bytealg.IndexString", "internal/bytealg.abigen_runtime_cmpstring", "internal/abi.NoEscape", "slices.overlaps[counterpane/api.Entry]"], unfollowed := true, recurses := true, named := ["unicode/utf8.first", "unicode/utf8.acceptRanges", "internal/bytealg.MaxLen"], apart := false, laid := [("unicode/utf8.acceptRanges", laid_unicode_utf8_acceptRanges), ("unicode/utf8.first", laid_unicode_utf8_first)] }
def PrimAllSaid : Prop := primAllRow.holds Tryz.pinned (OpenSpec.ofChange primAllSpec)

/-- ITS FALSE NEIGHBOUR: 'it returns false'. Refute it at one input. -/
def primAllWrong : ChangeSpec := { name := "primAll", fn := fun _ => fun
  | [d1, d2] => { results := [.lit (.bool false)], args := [d1, d2] }
  | _ => none }
def PrimAllWrongFalsely : Prop := primAllRow.holds Tryz.pinned (OpenSpec.ofChange primAllWrong)

/-- 'counterpanelaw08.PrimTree': WHATEVER THE INPUT: true; the input reads as it did. -/
def primTreeSpec : ChangeSpec := { name := "primTree", fn := fun _ => fun
  | [d1, d2] => { results := [.lit (.bool true)], args := [d1, d2] }
  | _ => none }
def primTreeRow : OpenClaim := { program := "ythhohbidjhcjeaagreatdoor", sum := "79d1c4f72d4bbd8770e6e202679bca5f8901df12a5ae32b7fbf740cc7424a8d3", func := "counterpane/counterpanelaw08.PrimTree", spec := "primTree", inPlace := ["internal/bytealg.IndexByteString", "internal/bytealg.IndexString", "internal/bytealg.abigen_runtime_cmpstring", "internal/abi.NoEscape", "slices.overlaps[counterpane/api.Entry]"], unfollowed := true, recurses := true, named := ["unicode/utf8.first", "unicode/utf8.acceptRanges", "internal/bytealg.MaxLen"], apart := false, laid := [("unicode/utf8.acceptRanges", laid_unicode_utf8_acceptRanges), ("unicode/utf8.first", laid_unicode_utf8_first)] }
def PrimTreeSaid : Prop := primTreeRow.holds Tryz.pinned (OpenSpec.ofChange primTreeSpec)

/-- ITS FALSE NEIGHBOUR: 'it returns false'. Refute it at one input. -/
def primTreeWrong : ChangeSpec := { name := "primTree", fn := fun _ => fun
  | [d1, d2] => { results := [.lit (.bool false)], args := [d1, d2] }
  | _ => none }
def PrimTreeWrongFalsely : Prop := primTreeRow.holds Tryz.pinned (OpenSpec.ofChange primTreeWrong)

/-- 'counterpanelaw08.PrimCounts': WHATEVER THE INPUT: true; the input reads as it did. -/
def primCountsSpec : ChangeSpec := { name := "primCounts", fn := fun _ => fun
  | [d1, d2] => { results := [.lit (.bool true)], args := [d1, d2] }
  | _ => none }
def primCountsRow : OpenClaim := { program := "ythhohbidjhcjeaagreatdoor", sum := "79d1c4f72d4bbd8770e6e202679bca5f8901df12a5ae32b7fbf740cc7424a8d3", func := "counterpane/counterpanelaw08.PrimCounts", spec := "primCounts", inPlace := ["internal/bytealg.IndexByteString", "internal/bytealg.IndexString", "internal/bytealg.abigen_runtime_cmpstring", "internal/abi.NoEscape", "slices.overlaps[counterpane/api.Entry]"], unfollowed := true, recurses := true, named := ["unicode/utf8.first", "unicode/utf8.acceptRanges", "internal/bytealg.MaxLen"], apart := false, laid := [("unicode/utf8.acceptRanges", laid_unicode_utf8_acceptRanges), ("unicode/utf8.first", laid_unicode_utf8_first)] }
def PrimCountsSaid : Prop := primCountsRow.holds Tryz.pinned (OpenSpec.ofChange primCountsSpec)

/-- ITS FALSE NEIGHBOUR: 'it returns false'. Refute it at one input. -/
def primCountsWrong : ChangeSpec := { name := "primCounts", fn := fun _ => fun
  | [d1, d2] => { results := [.lit (.bool false)], args := [d1, d2] }
  | _ => none }
def PrimCountsWrongFalsely : Prop := primCountsRow.holds Tryz.pinned (OpenSpec.ofChange primCountsWrong)

/-- 'counterpanelaw08.PrimAdds': WHATEVER THE INPUT: true; the input reads as it did. -/
def primAddsSpec : ChangeSpec := { name := "primAdds", fn := fun _ => fun
  | [d1, d2, d3] => { results := [.lit (.bool true)], args := [d1, d2, d3] }
  | _ => none }
def primAddsRow : OpenClaim := { program := "ythhohbidjhcjeaagreatdoor", sum := "79d1c4f72d4bbd8770e6e202679bca5f8901df12a5ae32b7fbf740cc7424a8d3", func := "counterpane/counterpanelaw08.PrimAdds", spec := "primAdds", inPlace := ["internal/bytealg.IndexByteString", "internal/bytealg.IndexString", "internal/bytealg.abigen_runtime_cmpstring", "internal/abi.NoEscape", "slices.overlaps[counterpane/api.Entry]"], unfollowed := true, recurses := true, named := ["unicode/utf8.first", "unicode/utf8.acceptRanges", "internal/bytealg.MaxLen"], apart := false, laid := [("unicode/utf8.acceptRanges", laid_unicode_utf8_acceptRanges), ("unicode/utf8.first", laid_unicode_utf8_first)] }
def PrimAddsSaid : Prop := primAddsRow.holds Tryz.pinned (OpenSpec.ofChange primAddsSpec)

/-- ITS FALSE NEIGHBOUR: 'it returns false'. Refute it at one input. -/
def primAddsWrong : ChangeSpec := { name := "primAdds", fn := fun _ => fun
  | [d1, d2, d3] => { results := [.lit (.bool false)], args := [d1, d2, d3] }
  | _ => none }
def PrimAddsWrongFalsely : Prop := primAddsRow.holds Tryz.pinned (OpenSpec.ofChange primAddsWrong)

/-- 'counterpanelaw08.PrimLines': WHATEVER THE INPUT: true; the input reads as it did. -/
def primLinesSpec : ChangeSpec := { name := "primLines", fn := fun _ => fun
  | [d1, d2, d3] => { results := [.lit (.bool true)], args := [d1, d2, d3] }
  | _ => none }
def primLinesRow : OpenClaim := { program := "ythhohbidjhcjeaagreatdoor", sum := "79d1c4f72d4bbd8770e6e202679bca5f8901df12a5ae32b7fbf740cc7424a8d3", func := "counterpane/counterpanelaw08.PrimLines", spec := "primLines", inPlace := ["internal/bytealg.IndexByteString", "internal/bytealg.IndexString", "internal/bytealg.abigen_runtime_cmpstring", "internal/abi.NoEscape", "slices.overlaps[counterpane/api.Entry]"], unfollowed := true, recurses := true, named := ["unicode/utf8.first", "unicode/utf8.acceptRanges", "internal/bytealg.MaxLen"], apart := false, laid := [("unicode/utf8.acceptRanges", laid_unicode_utf8_acceptRanges), ("unicode/utf8.first", laid_unicode_utf8_first)] }
def PrimLinesSaid : Prop := primLinesRow.holds Tryz.pinned (OpenSpec.ofChange primLinesSpec)

/-- ITS FALSE NEIGHBOUR: 'it returns false'. Refute it at one input. -/
def primLinesWrong : ChangeSpec := { name := "primLines", fn := fun _ => fun
  | [d1, d2, d3] => { results := [.lit (.bool false)], args := [d1, d2, d3] }
  | _ => none }
def PrimLinesWrongFalsely : Prop := primLinesRow.holds Tryz.pinned (OpenSpec.ofChange primLinesWrong)

/-- 'counterpanelaw08.PrimMoves': WHATEVER THE INPUT: true; the input reads as it did. -/
def primMovesSpec : ChangeSpec := { name := "primMoves", fn := fun _ => fun
  | [d1, d2, d3] => { results := [.lit (.bool true)], args := [d1, d2, d3] }
  | _ => none }
def primMovesRow : OpenClaim := { program := "ythhohbidjhcjeaagreatdoor", sum := "79d1c4f72d4bbd8770e6e202679bca5f8901df12a5ae32b7fbf740cc7424a8d3", func := "counterpane/counterpanelaw08.PrimMoves", spec := "primMoves", inPlace := ["internal/bytealg.IndexByteString", "internal/bytealg.IndexString", "internal/bytealg.abigen_runtime_cmpstring", "internal/abi.NoEscape", "slices.overlaps[counterpane/api.Entry]"], unfollowed := true, recurses := true, named := ["unicode/utf8.first", "unicode/utf8.acceptRanges", "internal/bytealg.MaxLen"], apart := false, laid := [("unicode/utf8.acceptRanges", laid_unicode_utf8_acceptRanges), ("unicode/utf8.first", laid_unicode_utf8_first)] }
def PrimMovesSaid : Prop := primMovesRow.holds Tryz.pinned (OpenSpec.ofChange primMovesSpec)

/-- ITS FALSE NEIGHBOUR: 'it returns false'. Refute it at one input. -/
def primMovesWrong : ChangeSpec := { name := "primMoves", fn := fun _ => fun
  | [d1, d2, d3] => { results := [.lit (.bool false)], args := [d1, d2, d3] }
  | _ => none }
def PrimMovesWrongFalsely : Prop := primMovesRow.holds Tryz.pinned (OpenSpec.ofChange primMovesWrong)

/-- 'counterpanelaw09.InvertUndoes': WHATEVER THE INPUT: true; the input reads as it did. -/
def invertUndoesSpec : ChangeSpec := { name := "invertUndoes", fn := fun _ => fun
  | [d1, d2] => { results := [.lit (.bool true)], args := [d1, d2] }
  | _ => none }
def invertUndoesRow : OpenClaim := { program := "ythhohbidjhcjeaagreatdoor", sum := "79d1c4f72d4bbd8770e6e202679bca5f8901df12a5ae32b7fbf740cc7424a8d3", func := "counterpane/counterpanelaw09.InvertUndoes", spec := "invertUndoes", inPlace := ["internal/bytealg.IndexByteString", "internal/bytealg.IndexString", "internal/bytealg.abigen_runtime_cmpstring", "internal/abi.NoEscape", "slices.overlaps[counterpane/api.Entry]"], unfollowed := true, recurses := true, named := ["unicode/utf8.first", "unicode/utf8.acceptRanges", "internal/bytealg.MaxLen"], apart := false, laid := [("unicode/utf8.acceptRanges", laid_unicode_utf8_acceptRanges), ("unicode/utf8.first", laid_unicode_utf8_first)] }
def InvertUndoesSaid : Prop := invertUndoesRow.holds Tryz.pinned (OpenSpec.ofChange invertUndoesSpec)

/-- ITS FALSE NEIGHBOUR: 'it returns false'. Refute it at one input. -/
def invertUndoesWrong : ChangeSpec := { name := "invertUndoes", fn := fun _ => fun
  | [d1, d2] => { results := [.lit (.bool false)], args := [d1, d2] }
  | _ => none }
def InvertUndoesWrongFalsely : Prop := invertUndoesRow.holds Tryz.pinned (OpenSpec.ofChange invertUndoesWrong)

/-- 'counterpanelaw09.InvertAll': WHATEVER THE INPUT: true; the input reads as it did. -/
def invertAllSpec : ChangeSpec := { name := "invertAll", fn := fun _ => fun
  | [d1, d2] => { results := [.lit (.bool true)], args := [d1, d2] }
  | _ => none }
def invertAllRow : OpenClaim := { program := "ythhohbidjhcjeaagreatdoor", sum := "79d1c4f72d4bbd8770e6e202679bca5f8901df12a5ae32b7fbf740cc7424a8d3", func := "counterpane/counterpanelaw09.InvertAll", spec := "invertAll", inPlace := ["internal/bytealg.IndexByteString", "internal/bytealg.IndexString", "internal/bytealg.abigen_runtime_cmpstring", "internal/abi.NoEscape", "slices.overlaps[counterpane/api.Entry]"], unfollowed := true, recurses := true, named := ["unicode/utf8.first", "unicode/utf8.acceptRanges", "internal/bytealg.MaxLen"], apart := false, laid := [("unicode/utf8.acceptRanges", laid_unicode_utf8_acceptRanges), ("unicode/utf8.first", laid_unicode_utf8_first)] }
def InvertAllSaid : Prop := invertAllRow.holds Tryz.pinned (OpenSpec.ofChange invertAllSpec)

/-- ITS FALSE NEIGHBOUR: 'it returns false'. Refute it at one input. -/
def invertAllWrong : ChangeSpec := { name := "invertAll", fn := fun _ => fun
  | [d1, d2] => { results := [.lit (.bool false)], args := [d1, d2] }
  | _ => none }
def InvertAllWrongFalsely : Prop := invertAllRow.holds Tryz.pinned (OpenSpec.ofChange invertAllWrong)

/-- 'counterpanelaw10.CommuteTree': WHATEVER THE INPUT: true; the input reads as it did. -/
def commuteTreeSpec : ChangeSpec := { name := "commuteTree", fn := fun _ => fun
  | [d1, d2, d3] => { results := [.lit (.bool true)], args := [d1, d2, d3] }
  | _ => none }
def commuteTreeRow : OpenClaim := { program := "ythhohbidjhcjeaagreatdoor", sum := "79d1c4f72d4bbd8770e6e202679bca5f8901df12a5ae32b7fbf740cc7424a8d3", func := "counterpane/counterpanelaw10.CommuteTree", spec := "commuteTree", inPlace := ["internal/bytealg.IndexByteString", "internal/bytealg.IndexString", "internal/bytealg.abigen_runtime_cmpstring", "internal/abi.NoEscape", "slices.overlaps[counterpane/api.Entry]"], unfollowed := true, recurses := true, named := ["unicode/utf8.first", "unicode/utf8.acceptRanges", "internal/bytealg.MaxLen"], apart := false, laid := [("unicode/utf8.acceptRanges", laid_unicode_utf8_acceptRanges), ("unicode/utf8.first", laid_unicode_utf8_first)] }
def CommuteTreeSaid : Prop := commuteTreeRow.holds Tryz.pinned (OpenSpec.ofChange commuteTreeSpec)

/-- ITS FALSE NEIGHBOUR: 'it returns false'. Refute it at one input. -/
def commuteTreeWrong : ChangeSpec := { name := "commuteTree", fn := fun _ => fun
  | [d1, d2, d3] => { results := [.lit (.bool false)], args := [d1, d2, d3] }
  | _ => none }
def CommuteTreeWrongFalsely : Prop := commuteTreeRow.holds Tryz.pinned (OpenSpec.ofChange commuteTreeWrong)

/-- 'counterpanelaw10.CommutePast': WHATEVER THE INPUT: true; the input reads as it did. -/
def commutePastSpec : ChangeSpec := { name := "commutePast", fn := fun _ => fun
  | [d1, d2, d3] => { results := [.lit (.bool true)], args := [d1, d2, d3] }
  | _ => none }
def commutePastRow : OpenClaim := { program := "ythhohbidjhcjeaagreatdoor", sum := "79d1c4f72d4bbd8770e6e202679bca5f8901df12a5ae32b7fbf740cc7424a8d3", func := "counterpane/counterpanelaw10.CommutePast", spec := "commutePast", inPlace := ["internal/bytealg.IndexByteString", "internal/bytealg.IndexString", "internal/bytealg.abigen_runtime_cmpstring", "internal/abi.NoEscape", "slices.overlaps[counterpane/api.Entry]"], unfollowed := true, recurses := true, named := ["unicode/utf8.first", "unicode/utf8.acceptRanges", "internal/bytealg.MaxLen"], apart := false, laid := [("unicode/utf8.acceptRanges", laid_unicode_utf8_acceptRanges), ("unicode/utf8.first", laid_unicode_utf8_first)] }
def CommutePastSaid : Prop := commutePastRow.holds Tryz.pinned (OpenSpec.ofChange commutePastSpec)

/-- ITS FALSE NEIGHBOUR: 'it returns false'. Refute it at one input. -/
def commutePastWrong : ChangeSpec := { name := "commutePast", fn := fun _ => fun
  | [d1, d2, d3] => { results := [.lit (.bool false)], args := [d1, d2, d3] }
  | _ => none }
def CommutePastWrongFalsely : Prop := commutePastRow.holds Tryz.pinned (OpenSpec.ofChange commutePastWrong)

/-- 'counterpanelaw12.RecordSteps': WHATEVER THE INPUT: true; the input reads as it did. -/
def recordStepsSpec : ChangeSpec := { name := "recordSteps", fn := fun _ => fun
  | [d1, d2, d3] => { results := [.lit (.bool true)], args := [d1, d2, d3] }
  | _ => none }
def recordStepsRow : OpenClaim := { program := "ythhohbidjhcjeaagreatdoor", sum := "79d1c4f72d4bbd8770e6e202679bca5f8901df12a5ae32b7fbf740cc7424a8d3", func := "counterpane/counterpanelaw12.RecordSteps", spec := "recordSteps", inPlace := ["internal/bytealg.IndexByteString", "internal/bytealg.IndexString", "math.Float64frombits", "math.Float64bits", "internal/bytealg.abigen_runtime_cmpstring", "internal/abi.NoEscape", "slices.overlaps[counterpane/api.Entry]"], unfollowed := true, recurses := true, named := ["unicode/utf8.first", "unicode/utf8.acceptRanges", "internal/bytealg.MaxLen"], apart := false, laid := [("unicode/utf8.acceptRanges", laid_unicode_utf8_acceptRanges), ("unicode/utf8.first", laid_unicode_utf8_first)] }
def RecordStepsSaid : Prop := recordStepsRow.holds Tryz.pinned (OpenSpec.ofChange recordStepsSpec)

/-- ITS FALSE NEIGHBOUR: 'it returns false'. Refute it at one input. -/
def recordStepsWrong : ChangeSpec := { name := "recordSteps", fn := fun _ => fun
  | [d1, d2, d3] => { results := [.lit (.bool false)], args := [d1, d2, d3] }
  | _ => none }
def RecordStepsWrongFalsely : Prop := recordStepsRow.holds Tryz.pinned (OpenSpec.ofChange recordStepsWrong)

/-- 'counterpanelaw12.RecordEmpty': WHATEVER THE INPUT: true; the input reads as it did. -/
def recordEmptySpec : ChangeSpec := { name := "recordEmpty", fn := fun _ => fun
  | [d] => { results := [.lit (.bool true)], args := [d] }
  | _ => none }
def recordEmptyRow : OpenClaim := { program := "ythhohbidjhcjeaagreatdoor", sum := "79d1c4f72d4bbd8770e6e202679bca5f8901df12a5ae32b7fbf740cc7424a8d3", func := "counterpane/counterpanelaw12.RecordEmpty", spec := "recordEmpty", inPlace := ["internal/bytealg.IndexByteString", "internal/bytealg.IndexString", "math.Float64frombits", "math.Float64bits", "internal/bytealg.abigen_runtime_cmpstring", "internal/abi.NoEscape", "slices.overlaps[counterpane/api.Entry]"], unfollowed := true, recurses := true, named := ["unicode/utf8.first", "unicode/utf8.acceptRanges", "internal/bytealg.MaxLen"], apart := false, laid := [("unicode/utf8.acceptRanges", laid_unicode_utf8_acceptRanges), ("unicode/utf8.first", laid_unicode_utf8_first)] }
def RecordEmptySaid : Prop := recordEmptyRow.holds Tryz.pinned (OpenSpec.ofChange recordEmptySpec)

/-- ITS FALSE NEIGHBOUR: 'it returns false'. Refute it at one input. -/
def recordEmptyWrong : ChangeSpec := { name := "recordEmpty", fn := fun _ => fun
  | [d] => { results := [.lit (.bool false)], args := [d] }
  | _ => none }
def RecordEmptyWrongFalsely : Prop := recordEmptyRow.holds Tryz.pinned (OpenSpec.ofChange recordEmptyWrong)

/-- 'counterpanelaw11.SeqSwaps': WHATEVER THE INPUT: true; the input reads as it did. -/
def seqSwapsSpec : ChangeSpec := { name := "seqSwaps", fn := fun _ => fun
  | [d1, d2, d3] => { results := [.lit (.bool true)], args := [d1, d2, d3] }
  | _ => none }
def seqSwapsRow : OpenClaim := { program := "ythhohbidjhcjeaagreatdoor", sum := "79d1c4f72d4bbd8770e6e202679bca5f8901df12a5ae32b7fbf740cc7424a8d3", func := "counterpane/counterpanelaw11.SeqSwaps", spec := "seqSwaps", inPlace := ["internal/bytealg.IndexByteString", "internal/bytealg.IndexString", "internal/bytealg.abigen_runtime_cmpstring", "internal/abi.NoEscape", "slices.overlaps[counterpane/api.Entry]"], unfollowed := true, recurses := true, named := ["unicode/utf8.first", "unicode/utf8.acceptRanges", "internal/bytealg.MaxLen"], apart := false, laid := [("unicode/utf8.acceptRanges", laid_unicode_utf8_acceptRanges), ("unicode/utf8.first", laid_unicode_utf8_first)] }
def SeqSwapsSaid : Prop := seqSwapsRow.holds Tryz.pinned (OpenSpec.ofChange seqSwapsSpec)

/-- ITS FALSE NEIGHBOUR: 'it returns false'. Refute it at one input. -/
def seqSwapsWrong : ChangeSpec := { name := "seqSwaps", fn := fun _ => fun
  | [d1, d2, d3] => { results := [.lit (.bool false)], args := [d1, d2, d3] }
  | _ => none }
def SeqSwapsWrongFalsely : Prop := seqSwapsRow.holds Tryz.pinned (OpenSpec.ofChange seqSwapsWrong)

/-- 'counterpanelaw11.SeqLast': WHATEVER THE INPUT: true; the input reads as it did. -/
def seqLastSpec : ChangeSpec := { name := "seqLast", fn := fun _ => fun
  | [d1, d2, d3] => { results := [.lit (.bool true)], args := [d1, d2, d3] }
  | _ => none }
def seqLastRow : OpenClaim := { program := "ythhohbidjhcjeaagreatdoor", sum := "79d1c4f72d4bbd8770e6e202679bca5f8901df12a5ae32b7fbf740cc7424a8d3", func := "counterpane/counterpanelaw11.SeqLast", spec := "seqLast", inPlace := ["internal/bytealg.IndexByteString", "internal/bytealg.IndexString", "internal/bytealg.abigen_runtime_cmpstring", "internal/abi.NoEscape", "slices.overlaps[counterpane/api.Entry]"], unfollowed := true, recurses := true, named := ["unicode/utf8.first", "unicode/utf8.acceptRanges", "internal/bytealg.MaxLen"], apart := false, laid := [("unicode/utf8.acceptRanges", laid_unicode_utf8_acceptRanges), ("unicode/utf8.first", laid_unicode_utf8_first)] }
def SeqLastSaid : Prop := seqLastRow.holds Tryz.pinned (OpenSpec.ofChange seqLastSpec)

/-- ITS FALSE NEIGHBOUR: 'it returns false'. Refute it at one input. -/
def seqLastWrong : ChangeSpec := { name := "seqLast", fn := fun _ => fun
  | [d1, d2, d3] => { results := [.lit (.bool false)], args := [d1, d2, d3] }
  | _ => none }
def SeqLastWrongFalsely : Prop := seqLastRow.holds Tryz.pinned (OpenSpec.ofChange seqLastWrong)

/-- 'counterpanelaw11.SeqJoins': WHATEVER THE INPUT: true; the input reads as it did. -/
def seqJoinsSpec : ChangeSpec := { name := "seqJoins", fn := fun _ => fun
  | [d1, d2] => { results := [.lit (.bool true)], args := [d1, d2] }
  | _ => none }
def seqJoinsRow : OpenClaim := { program := "ythhohbidjhcjeaagreatdoor", sum := "79d1c4f72d4bbd8770e6e202679bca5f8901df12a5ae32b7fbf740cc7424a8d3", func := "counterpane/counterpanelaw11.SeqJoins", spec := "seqJoins", inPlace := ["internal/bytealg.IndexByteString", "internal/bytealg.IndexString", "internal/bytealg.abigen_runtime_cmpstring", "internal/abi.NoEscape", "slices.overlaps[counterpane/api.Entry]"], unfollowed := true, recurses := true, named := ["unicode/utf8.first", "unicode/utf8.acceptRanges", "internal/bytealg.MaxLen"], apart := false, laid := [("unicode/utf8.acceptRanges", laid_unicode_utf8_acceptRanges), ("unicode/utf8.first", laid_unicode_utf8_first)] }
def SeqJoinsSaid : Prop := seqJoinsRow.holds Tryz.pinned (OpenSpec.ofChange seqJoinsSpec)

/-- ITS FALSE NEIGHBOUR: 'it returns false'. Refute it at one input. -/
def seqJoinsWrong : ChangeSpec := { name := "seqJoins", fn := fun _ => fun
  | [d1, d2] => { results := [.lit (.bool false)], args := [d1, d2] }
  | _ => none }
def SeqJoinsWrongFalsely : Prop := seqJoinsRow.holds Tryz.pinned (OpenSpec.ofChange seqJoinsWrong)

/-- 'counterpanelaw12.RecordMakes': WHATEVER THE INPUT: true; the input reads as it did. -/
def recordMakesSpec : ChangeSpec := { name := "recordMakes", fn := fun _ => fun
  | [d1, d2] => { results := [.lit (.bool true)], args := [d1, d2] }
  | _ => none }
def recordMakesRow : OpenClaim := { program := "ythhohbidjhcjeaagreatdoor", sum := "79d1c4f72d4bbd8770e6e202679bca5f8901df12a5ae32b7fbf740cc7424a8d3", func := "counterpane/counterpanelaw12.RecordMakes", spec := "recordMakes", inPlace := ["internal/bytealg.IndexByteString", "internal/bytealg.IndexString", "math.Float64frombits", "math.Float64bits", "internal/bytealg.abigen_runtime_cmpstring", "internal/abi.NoEscape", "slices.overlaps[counterpane/api.Entry]"], unfollowed := true, recurses := true, named := ["unicode/utf8.first", "unicode/utf8.acceptRanges", "internal/bytealg.MaxLen"], apart := false, laid := [("unicode/utf8.acceptRanges", laid_unicode_utf8_acceptRanges), ("unicode/utf8.first", laid_unicode_utf8_first)] }
def RecordMakesSaid : Prop := recordMakesRow.holds Tryz.pinned (OpenSpec.ofChange recordMakesSpec)

/-- ITS FALSE NEIGHBOUR: 'it returns false'. Refute it at one input. -/
def recordMakesWrong : ChangeSpec := { name := "recordMakes", fn := fun _ => fun
  | [d1, d2] => { results := [.lit (.bool false)], args := [d1, d2] }
  | _ => none }
def RecordMakesWrongFalsely : Prop := recordMakesRow.holds Tryz.pinned (OpenSpec.ofChange recordMakesWrong)

/- THE SECOND FORM. 'bulk': how many values and letters a reading holds, each counted each time it is reached (what is shared counts as often as it is met; a slice's spare places count too). A statement '..UptoSaid' is the law's where the arguments, and the package variables that the reading takes, are together of bulk at most 1048576: NARROWER than '..Said'. Prove '..Said' where nothing that the law and all that it calls make is longer than what came in: it says more and counts as full. Else prove '..UptoSaid'. A law counts once. -/
mutual
def uptoBulk {H : Type} : DataW H → Nat
  | .lit (.string bytes) => bytes.length + 1
  | .lit _ => 1
  | .nil => 1
  | .ptr d => uptoBulk d + 1
  | .slice elems spare => uptoBulkAll elems + uptoBulkAll spare + 1
  | .agg parts => uptoBulkAll parts + 1
  | .iface _ d => uptoBulk d + 1
  | .map entries => uptoBulkEntries entries + 1
  | .held _ => 1
def uptoBulkAll {H : Type} : List (DataW H) → Nat
  | [] => 0
  | d :: r => uptoBulk d + uptoBulkAll r
def uptoBulkEntries {H : Type} : List (Lit × DataW H) → Nat
  | [] => 0
  | x :: r => uptoBulkEntry x + uptoBulkEntries r
def uptoBulkEntry {H : Type} : Lit × DataW H → Nat
  | (.string bytes, d) => bytes.length + uptoBulk d + 1
  | (_, d) => uptoBulk d + 1
 end
def uptoSmall : (H : Type) → List (DataW H) → Bool := fun _ ds => decide (uptoBulkAll ds ≤ 1048576)
def OpenSpec.upto (s : _root_.Go.ChangeSpec) : _root_.Go.OpenSpec := { _root_.Go.OpenSpec.ofChange s with cond := some uptoSmall }

/-- 'counterpanelaw08.PrimTells', WHERE WHAT IT READS IS OF BULK AT MOST 1048576: true; the input reads as it did. -/
def primTellsUptoRow : OpenClaim := { program := "ythhohbidjhcjeaagreatdoor", sum := "79d1c4f72d4bbd8770e6e202679bca5f8901df12a5ae32b7fbf740cc7424a8d3", func := "counterpane/counterpanelaw08.PrimTells", spec := "primTells", inPlace := ["internal/bytealg.IndexByteString", "internal/bytealg.IndexString", "internal/bytealg.abigen_runtime_cmpstring", "internal/abi.NoEscape", "slices.overlaps[counterpane/api.Entry]"], unfollowed := true, recurses := true, named := ["unicode/utf8.first", "unicode/utf8.acceptRanges", "internal/bytealg.MaxLen"], apart := false, laid := [("unicode/utf8.acceptRanges", laid_unicode_utf8_acceptRanges), ("unicode/utf8.first", laid_unicode_utf8_first)], narrowed := true }
def PrimTellsUptoSaid : Prop := primTellsUptoRow.holds Tryz.pinned (OpenSpec.upto primTellsSpec)

/-- 'counterpanelaw08.PrimAll', WHERE WHAT IT READS IS OF BULK AT MOST 1048576: true; the input reads as it did. -/
def primAllUptoRow : OpenClaim := { program := "ythhohbidjhcjeaagreatdoor", sum := "79d1c4f72d4bbd8770e6e202679bca5f8901df12a5ae32b7fbf740cc7424a8d3", func := "counterpane/counterpanelaw08.PrimAll", spec := "primAll", inPlace := ["internal/bytealg.IndexByteString", "internal/bytealg.IndexString", "internal/bytealg.abigen_runtime_cmpstring", "internal/abi.NoEscape", "slices.overlaps[counterpane/api.Entry]"], unfollowed := true, recurses := true, named := ["unicode/utf8.first", "unicode/utf8.acceptRanges", "internal/bytealg.MaxLen"], apart := false, laid := [("unicode/utf8.acceptRanges", laid_unicode_utf8_acceptRanges), ("unicode/utf8.first", laid_unicode_utf8_first)], narrowed := true }
def PrimAllUptoSaid : Prop := primAllUptoRow.holds Tryz.pinned (OpenSpec.upto primAllSpec)

/-- 'counterpanelaw08.PrimTree', WHERE WHAT IT READS IS OF BULK AT MOST 1048576: true; the input reads as it did. -/
def primTreeUptoRow : OpenClaim := { program := "ythhohbidjhcjeaagreatdoor", sum := "79d1c4f72d4bbd8770e6e202679bca5f8901df12a5ae32b7fbf740cc7424a8d3", func := "counterpane/counterpanelaw08.PrimTree", spec := "primTree", inPlace := ["internal/bytealg.IndexByteString", "internal/bytealg.IndexString", "internal/bytealg.abigen_runtime_cmpstring", "internal/abi.NoEscape", "slices.overlaps[counterpane/api.Entry]"], unfollowed := true, recurses := true, named := ["unicode/utf8.first", "unicode/utf8.acceptRanges", "internal/bytealg.MaxLen"], apart := false, laid := [("unicode/utf8.acceptRanges", laid_unicode_utf8_acceptRanges), ("unicode/utf8.first", laid_unicode_utf8_first)], narrowed := true }
def PrimTreeUptoSaid : Prop := primTreeUptoRow.holds Tryz.pinned (OpenSpec.upto primTreeSpec)

/-- 'counterpanelaw08.PrimCounts', WHERE WHAT IT READS IS OF BULK AT MOST 1048576: true; the input reads as it did. -/
def primCountsUptoRow : OpenClaim := { program := "ythhohbidjhcjeaagreatdoor", sum := "79d1c4f72d4bbd8770e6e202679bca5f8901df12a5ae32b7fbf740cc7424a8d3", func := "counterpane/counterpanelaw08.PrimCounts", spec := "primCounts", inPlace := ["internal/bytealg.IndexByteString", "internal/bytealg.IndexString", "internal/bytealg.abigen_runtime_cmpstring", "internal/abi.NoEscape", "slices.overlaps[counterpane/api.Entry]"], unfollowed := true, recurses := true, named := ["unicode/utf8.first", "unicode/utf8.acceptRanges", "internal/bytealg.MaxLen"], apart := false, laid := [("unicode/utf8.acceptRanges", laid_unicode_utf8_acceptRanges), ("unicode/utf8.first", laid_unicode_utf8_first)], narrowed := true }
def PrimCountsUptoSaid : Prop := primCountsUptoRow.holds Tryz.pinned (OpenSpec.upto primCountsSpec)

/-- 'counterpanelaw08.PrimAdds', WHERE WHAT IT READS IS OF BULK AT MOST 1048576: true; the input reads as it did. -/
def primAddsUptoRow : OpenClaim := { program := "ythhohbidjhcjeaagreatdoor", sum := "79d1c4f72d4bbd8770e6e202679bca5f8901df12a5ae32b7fbf740cc7424a8d3", func := "counterpane/counterpanelaw08.PrimAdds", spec := "primAdds", inPlace := ["internal/bytealg.IndexByteString", "internal/bytealg.IndexString", "internal/bytealg.abigen_runtime_cmpstring", "internal/abi.NoEscape", "slices.overlaps[counterpane/api.Entry]"], unfollowed := true, recurses := true, named := ["unicode/utf8.first", "unicode/utf8.acceptRanges", "internal/bytealg.MaxLen"], apart := false, laid := [("unicode/utf8.acceptRanges", laid_unicode_utf8_acceptRanges), ("unicode/utf8.first", laid_unicode_utf8_first)], narrowed := true }
def PrimAddsUptoSaid : Prop := primAddsUptoRow.holds Tryz.pinned (OpenSpec.upto primAddsSpec)

/-- 'counterpanelaw08.PrimLines', WHERE WHAT IT READS IS OF BULK AT MOST 1048576: true; the input reads as it did. -/
def primLinesUptoRow : OpenClaim := { program := "ythhohbidjhcjeaagreatdoor", sum := "79d1c4f72d4bbd8770e6e202679bca5f8901df12a5ae32b7fbf740cc7424a8d3", func := "counterpane/counterpanelaw08.PrimLines", spec := "primLines", inPlace := ["internal/bytealg.IndexByteString", "internal/bytealg.IndexString", "internal/bytealg.abigen_runtime_cmpstring", "internal/abi.NoEscape", "slices.overlaps[counterpane/api.Entry]"], unfollowed := true, recurses := true, named := ["unicode/utf8.first", "unicode/utf8.acceptRanges", "internal/bytealg.MaxLen"], apart := false, laid := [("unicode/utf8.acceptRanges", laid_unicode_utf8_acceptRanges), ("unicode/utf8.first", laid_unicode_utf8_first)], narrowed := true }
def PrimLinesUptoSaid : Prop := primLinesUptoRow.holds Tryz.pinned (OpenSpec.upto primLinesSpec)

/-- 'counterpanelaw08.PrimMoves', WHERE WHAT IT READS IS OF BULK AT MOST 1048576: true; the input reads as it did. -/
def primMovesUptoRow : OpenClaim := { program := "ythhohbidjhcjeaagreatdoor", sum := "79d1c4f72d4bbd8770e6e202679bca5f8901df12a5ae32b7fbf740cc7424a8d3", func := "counterpane/counterpanelaw08.PrimMoves", spec := "primMoves", inPlace := ["internal/bytealg.IndexByteString", "internal/bytealg.IndexString", "internal/bytealg.abigen_runtime_cmpstring", "internal/abi.NoEscape", "slices.overlaps[counterpane/api.Entry]"], unfollowed := true, recurses := true, named := ["unicode/utf8.first", "unicode/utf8.acceptRanges", "internal/bytealg.MaxLen"], apart := false, laid := [("unicode/utf8.acceptRanges", laid_unicode_utf8_acceptRanges), ("unicode/utf8.first", laid_unicode_utf8_first)], narrowed := true }
def PrimMovesUptoSaid : Prop := primMovesUptoRow.holds Tryz.pinned (OpenSpec.upto primMovesSpec)

/-- 'counterpanelaw09.InvertUndoes', WHERE WHAT IT READS IS OF BULK AT MOST 1048576: true; the input reads as it did. -/
def invertUndoesUptoRow : OpenClaim := { program := "ythhohbidjhcjeaagreatdoor", sum := "79d1c4f72d4bbd8770e6e202679bca5f8901df12a5ae32b7fbf740cc7424a8d3", func := "counterpane/counterpanelaw09.InvertUndoes", spec := "invertUndoes", inPlace := ["internal/bytealg.IndexByteString", "internal/bytealg.IndexString", "internal/bytealg.abigen_runtime_cmpstring", "internal/abi.NoEscape", "slices.overlaps[counterpane/api.Entry]"], unfollowed := true, recurses := true, named := ["unicode/utf8.first", "unicode/utf8.acceptRanges", "internal/bytealg.MaxLen"], apart := false, laid := [("unicode/utf8.acceptRanges", laid_unicode_utf8_acceptRanges), ("unicode/utf8.first", laid_unicode_utf8_first)], narrowed := true }
def InvertUndoesUptoSaid : Prop := invertUndoesUptoRow.holds Tryz.pinned (OpenSpec.upto invertUndoesSpec)

/-- 'counterpanelaw09.InvertAll', WHERE WHAT IT READS IS OF BULK AT MOST 1048576: true; the input reads as it did. -/
def invertAllUptoRow : OpenClaim := { program := "ythhohbidjhcjeaagreatdoor", sum := "79d1c4f72d4bbd8770e6e202679bca5f8901df12a5ae32b7fbf740cc7424a8d3", func := "counterpane/counterpanelaw09.InvertAll", spec := "invertAll", inPlace := ["internal/bytealg.IndexByteString", "internal/bytealg.IndexString", "internal/bytealg.abigen_runtime_cmpstring", "internal/abi.NoEscape", "slices.overlaps[counterpane/api.Entry]"], unfollowed := true, recurses := true, named := ["unicode/utf8.first", "unicode/utf8.acceptRanges", "internal/bytealg.MaxLen"], apart := false, laid := [("unicode/utf8.acceptRanges", laid_unicode_utf8_acceptRanges), ("unicode/utf8.first", laid_unicode_utf8_first)], narrowed := true }
def InvertAllUptoSaid : Prop := invertAllUptoRow.holds Tryz.pinned (OpenSpec.upto invertAllSpec)

/-- 'counterpanelaw10.CommuteTree', WHERE WHAT IT READS IS OF BULK AT MOST 1048576: true; the input reads as it did. -/
def commuteTreeUptoRow : OpenClaim := { program := "ythhohbidjhcjeaagreatdoor", sum := "79d1c4f72d4bbd8770e6e202679bca5f8901df12a5ae32b7fbf740cc7424a8d3", func := "counterpane/counterpanelaw10.CommuteTree", spec := "commuteTree", inPlace := ["internal/bytealg.IndexByteString", "internal/bytealg.IndexString", "internal/bytealg.abigen_runtime_cmpstring", "internal/abi.NoEscape", "slices.overlaps[counterpane/api.Entry]"], unfollowed := true, recurses := true, named := ["unicode/utf8.first", "unicode/utf8.acceptRanges", "internal/bytealg.MaxLen"], apart := false, laid := [("unicode/utf8.acceptRanges", laid_unicode_utf8_acceptRanges), ("unicode/utf8.first", laid_unicode_utf8_first)], narrowed := true }
def CommuteTreeUptoSaid : Prop := commuteTreeUptoRow.holds Tryz.pinned (OpenSpec.upto commuteTreeSpec)

/-- 'counterpanelaw10.CommutePast', WHERE WHAT IT READS IS OF BULK AT MOST 1048576: true; the input reads as it did. -/
def commutePastUptoRow : OpenClaim := { program := "ythhohbidjhcjeaagreatdoor", sum := "79d1c4f72d4bbd8770e6e202679bca5f8901df12a5ae32b7fbf740cc7424a8d3", func := "counterpane/counterpanelaw10.CommutePast", spec := "commutePast", inPlace := ["internal/bytealg.IndexByteString", "internal/bytealg.IndexString", "internal/bytealg.abigen_runtime_cmpstring", "internal/abi.NoEscape", "slices.overlaps[counterpane/api.Entry]"], unfollowed := true, recurses := true, named := ["unicode/utf8.first", "unicode/utf8.acceptRanges", "internal/bytealg.MaxLen"], apart := false, laid := [("unicode/utf8.acceptRanges", laid_unicode_utf8_acceptRanges), ("unicode/utf8.first", laid_unicode_utf8_first)], narrowed := true }
def CommutePastUptoSaid : Prop := commutePastUptoRow.holds Tryz.pinned (OpenSpec.upto commutePastSpec)

/-- 'counterpanelaw12.RecordSteps', WHERE WHAT IT READS IS OF BULK AT MOST 1048576: true; the input reads as it did. -/
def recordStepsUptoRow : OpenClaim := { program := "ythhohbidjhcjeaagreatdoor", sum := "79d1c4f72d4bbd8770e6e202679bca5f8901df12a5ae32b7fbf740cc7424a8d3", func := "counterpane/counterpanelaw12.RecordSteps", spec := "recordSteps", inPlace := ["internal/bytealg.IndexByteString", "internal/bytealg.IndexString", "math.Float64frombits", "math.Float64bits", "internal/bytealg.abigen_runtime_cmpstring", "internal/abi.NoEscape", "slices.overlaps[counterpane/api.Entry]"], unfollowed := true, recurses := true, named := ["unicode/utf8.first", "unicode/utf8.acceptRanges", "internal/bytealg.MaxLen"], apart := false, laid := [("unicode/utf8.acceptRanges", laid_unicode_utf8_acceptRanges), ("unicode/utf8.first", laid_unicode_utf8_first)], narrowed := true }
def RecordStepsUptoSaid : Prop := recordStepsUptoRow.holds Tryz.pinned (OpenSpec.upto recordStepsSpec)

/-- 'counterpanelaw12.RecordEmpty', WHERE WHAT IT READS IS OF BULK AT MOST 1048576: true; the input reads as it did. -/
def recordEmptyUptoRow : OpenClaim := { program := "ythhohbidjhcjeaagreatdoor", sum := "79d1c4f72d4bbd8770e6e202679bca5f8901df12a5ae32b7fbf740cc7424a8d3", func := "counterpane/counterpanelaw12.RecordEmpty", spec := "recordEmpty", inPlace := ["internal/bytealg.IndexByteString", "internal/bytealg.IndexString", "math.Float64frombits", "math.Float64bits", "internal/bytealg.abigen_runtime_cmpstring", "internal/abi.NoEscape", "slices.overlaps[counterpane/api.Entry]"], unfollowed := true, recurses := true, named := ["unicode/utf8.first", "unicode/utf8.acceptRanges", "internal/bytealg.MaxLen"], apart := false, laid := [("unicode/utf8.acceptRanges", laid_unicode_utf8_acceptRanges), ("unicode/utf8.first", laid_unicode_utf8_first)], narrowed := true }
def RecordEmptyUptoSaid : Prop := recordEmptyUptoRow.holds Tryz.pinned (OpenSpec.upto recordEmptySpec)

/-- 'counterpanelaw11.SeqSwaps', WHERE WHAT IT READS IS OF BULK AT MOST 1048576: true; the input reads as it did. -/
def seqSwapsUptoRow : OpenClaim := { program := "ythhohbidjhcjeaagreatdoor", sum := "79d1c4f72d4bbd8770e6e202679bca5f8901df12a5ae32b7fbf740cc7424a8d3", func := "counterpane/counterpanelaw11.SeqSwaps", spec := "seqSwaps", inPlace := ["internal/bytealg.IndexByteString", "internal/bytealg.IndexString", "internal/bytealg.abigen_runtime_cmpstring", "internal/abi.NoEscape", "slices.overlaps[counterpane/api.Entry]"], unfollowed := true, recurses := true, named := ["unicode/utf8.first", "unicode/utf8.acceptRanges", "internal/bytealg.MaxLen"], apart := false, laid := [("unicode/utf8.acceptRanges", laid_unicode_utf8_acceptRanges), ("unicode/utf8.first", laid_unicode_utf8_first)], narrowed := true }
def SeqSwapsUptoSaid : Prop := seqSwapsUptoRow.holds Tryz.pinned (OpenSpec.upto seqSwapsSpec)

/-- 'counterpanelaw11.SeqLast', WHERE WHAT IT READS IS OF BULK AT MOST 1048576: true; the input reads as it did. -/
def seqLastUptoRow : OpenClaim := { program := "ythhohbidjhcjeaagreatdoor", sum := "79d1c4f72d4bbd8770e6e202679bca5f8901df12a5ae32b7fbf740cc7424a8d3", func := "counterpane/counterpanelaw11.SeqLast", spec := "seqLast", inPlace := ["internal/bytealg.IndexByteString", "internal/bytealg.IndexString", "internal/bytealg.abigen_runtime_cmpstring", "internal/abi.NoEscape", "slices.overlaps[counterpane/api.Entry]"], unfollowed := true, recurses := true, named := ["unicode/utf8.first", "unicode/utf8.acceptRanges", "internal/bytealg.MaxLen"], apart := false, laid := [("unicode/utf8.acceptRanges", laid_unicode_utf8_acceptRanges), ("unicode/utf8.first", laid_unicode_utf8_first)], narrowed := true }
def SeqLastUptoSaid : Prop := seqLastUptoRow.holds Tryz.pinned (OpenSpec.upto seqLastSpec)

/-- 'counterpanelaw11.SeqJoins', WHERE WHAT IT READS IS OF BULK AT MOST 1048576: true; the input reads as it did. -/
def seqJoinsUptoRow : OpenClaim := { program := "ythhohbidjhcjeaagreatdoor", sum := "79d1c4f72d4bbd8770e6e202679bca5f8901df12a5ae32b7fbf740cc7424a8d3", func := "counterpane/counterpanelaw11.SeqJoins", spec := "seqJoins", inPlace := ["internal/bytealg.IndexByteString", "internal/bytealg.IndexString", "internal/bytealg.abigen_runtime_cmpstring", "internal/abi.NoEscape", "slices.overlaps[counterpane/api.Entry]"], unfollowed := true, recurses := true, named := ["unicode/utf8.first", "unicode/utf8.acceptRanges", "internal/bytealg.MaxLen"], apart := false, laid := [("unicode/utf8.acceptRanges", laid_unicode_utf8_acceptRanges), ("unicode/utf8.first", laid_unicode_utf8_first)], narrowed := true }
def SeqJoinsUptoSaid : Prop := seqJoinsUptoRow.holds Tryz.pinned (OpenSpec.upto seqJoinsSpec)

/-- 'counterpanelaw12.RecordMakes', WHERE WHAT IT READS IS OF BULK AT MOST 1048576: true; the input reads as it did. -/
def recordMakesUptoRow : OpenClaim := { program := "ythhohbidjhcjeaagreatdoor", sum := "79d1c4f72d4bbd8770e6e202679bca5f8901df12a5ae32b7fbf740cc7424a8d3", func := "counterpane/counterpanelaw12.RecordMakes", spec := "recordMakes", inPlace := ["internal/bytealg.IndexByteString", "internal/bytealg.IndexString", "math.Float64frombits", "math.Float64bits", "internal/bytealg.abigen_runtime_cmpstring", "internal/abi.NoEscape", "slices.overlaps[counterpane/api.Entry]"], unfollowed := true, recurses := true, named := ["unicode/utf8.first", "unicode/utf8.acceptRanges", "internal/bytealg.MaxLen"], apart := false, laid := [("unicode/utf8.acceptRanges", laid_unicode_utf8_acceptRanges), ("unicode/utf8.first", laid_unicode_utf8_first)], narrowed := true }
def RecordMakesUptoSaid : Prop := recordMakesUptoRow.holds Tryz.pinned (OpenSpec.upto recordMakesSpec)

end Rows
end Go.Proofs.YthhohbidjhcjeaaGreatDoor
