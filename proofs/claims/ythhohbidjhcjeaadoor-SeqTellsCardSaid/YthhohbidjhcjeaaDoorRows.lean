/-
  NARROWER THAN 'FOR EVERY INPUT', by the rows' own cells (each row's printed sentence says how): InvertTwice: laid · CommuteTells: laid · CommuteBack: laid · CommuteApart: laid · CommuteInverse: laid · CommuteLines: laid · CommuteOver: laid · RecordTells: laid · RecordRight: laid · SeqTells: laid · SeqEmpty: laid · SeqUndone: laid.
  DERIVED. THE GIVEN ROWS OF THIS SEAT. 12 by the template 'for every input the law returns true; each argument reads behind the call as it read before'; 0 by the template 'total and deterministic' (their statements: YthhohbidjhcjeaaDoorTotals.lean).
  GIVEN WITH THE SEED: the statements are not yours to turn. If you find one false, say at which input.
  Laid BY PROGRAM, IN A SANDBOX (cutbox-rows.mjs): the forced cells as the released guide's own fill.sh prints them over the translation f63f41721260c882… (all of the seat's roots in one cut). By AI agents, Wed Nov 11 2026. No macro, syntax, notation, axiom, sorry.
-/
import Derived.Test.YthhohbidjhcjeaaDoorChecked
import GoSem.PinnedTables
import GoSem.Claim
import GoSem.ClaimJoined
import GoSem.ClaimMapViews
import Derived.JoinedTies
import Derived.KernelRfl
namespace Go.Proofs.YthhohbidjhcjeaaDoor
/- THE CELL 'sum', in the pinned program and in every row, IS THE sha256 OF THE DUMP (.gsa) THAT YthhohbidjhcjeaaDoorProg.lean LOADS. Nothing in Lean hashes anything: it is a label: what it is worth is what the hold of that sum in a sandbox is worth. -/
noncomputable def Tryd.pinned : Pinned := { name := "ythhohbidjhcjeaadoor", sum := "f63f41721260c882048da2f2698fac5a43065a24af6618ec21d17ad52c952650", checked := Tryd.checked }
namespace Rows
def none {H : Type} : Left H := { results := [], args := [] }

/- WHAT THE LISTED PACKAGE-LEVEL VARIABLES READ AS WHEN THE CALL BEGINS. Each datum BY PROGRAM (the guide's laid-datum.mjs) off the statement by which the dump's own 'gosem.cut.vars' lays the variable. In a bare row this is a premise. The card (YthhohbidjhcjeaaDoorCards.lean) ties it to the program's text. -/
def laid_unicode_utf8_acceptRanges {H : Type} : DataW H := .agg [.agg [.lit (.int .u8 128), .lit (.int .u8 191)], .agg [.lit (.int .u8 160), .lit (.int .u8 191)], .agg [.lit (.int .u8 128), .lit (.int .u8 159)], .agg [.lit (.int .u8 144), .lit (.int .u8 191)], .agg [.lit (.int .u8 128), .lit (.int .u8 143)], .agg [.lit (.int .u8 0), .lit (.int .u8 0)], .agg [.lit (.int .u8 0), .lit (.int .u8 0)], .agg [.lit (.int .u8 0), .lit (.int .u8 0)], .agg [.lit (.int .u8 0), .lit (.int .u8 0)], .agg [.lit (.int .u8 0), .lit (.int .u8 0)], .agg [.lit (.int .u8 0), .lit (.int .u8 0)], .agg [.lit (.int .u8 0), .lit (.int .u8 0)], .agg [.lit (.int .u8 0), .lit (.int .u8 0)], .agg [.lit (.int .u8 0), .lit (.int .u8 0)], .agg [.lit (.int .u8 0), .lit (.int .u8 0)], .agg [.lit (.int .u8 0), .lit (.int .u8 0)]]
/-- One of Go's own tables, pinned by name: the form's constant. -/
def laid_unicode_utf8_first : DataW Unit := Go.Pinned.utf8First

/-- 'counterpanelaw09.InvertTwice': WHATEVER THE INPUT: true; the input reads as it did. -/
def invertTwiceSpec : ChangeSpec := { name := "invertTwice", fn := fun _ => fun
  | [d1, d2] => { results := [.lit (.bool true)], args := [d1, d2] }
  | _ => none }
def invertTwiceRow : OpenClaim := { program := "ythhohbidjhcjeaadoor", sum := "f63f41721260c882048da2f2698fac5a43065a24af6618ec21d17ad52c952650", func := "counterpane/counterpanelaw09.InvertTwice", spec := "invertTwice", inPlace := ["internal/bytealg.IndexByteString", "internal/bytealg.IndexString"], unfollowed := true, recurses := true, named := ["unicode/utf8.first", "unicode/utf8.acceptRanges", "internal/bytealg.MaxLen"], apart := false, laid := [("unicode/utf8.acceptRanges", laid_unicode_utf8_acceptRanges), ("unicode/utf8.first", laid_unicode_utf8_first)] }
def InvertTwiceSaid : Prop := invertTwiceRow.holds Tryd.pinned (OpenSpec.ofChange invertTwiceSpec)

/-- ITS FALSE NEIGHBOUR: 'it returns false'. Refute it at one input. -/
def invertTwiceWrong : ChangeSpec := { name := "invertTwice", fn := fun _ => fun
  | [d1, d2] => { results := [.lit (.bool false)], args := [d1, d2] }
  | _ => none }
def InvertTwiceWrongFalsely : Prop := invertTwiceRow.holds Tryd.pinned (OpenSpec.ofChange invertTwiceWrong)

/-- 'counterpanelaw10.CommuteTells': WHATEVER THE INPUT: true; the input reads as it did. -/
def commuteTellsSpec : ChangeSpec := { name := "commuteTells", fn := fun _ => fun
  | [d1, d2, d3] => { results := [.lit (.bool true)], args := [d1, d2, d3] }
  | _ => none }
def commuteTellsRow : OpenClaim := { program := "ythhohbidjhcjeaadoor", sum := "f63f41721260c882048da2f2698fac5a43065a24af6618ec21d17ad52c952650", func := "counterpane/counterpanelaw10.CommuteTells", spec := "commuteTells", inPlace := ["internal/bytealg.IndexByteString", "internal/bytealg.IndexString"], unfollowed := true, recurses := true, named := ["unicode/utf8.first", "unicode/utf8.acceptRanges", "internal/bytealg.MaxLen"], apart := false, laid := [("unicode/utf8.acceptRanges", laid_unicode_utf8_acceptRanges), ("unicode/utf8.first", laid_unicode_utf8_first)] }
def CommuteTellsSaid : Prop := commuteTellsRow.holds Tryd.pinned (OpenSpec.ofChange commuteTellsSpec)

/-- ITS FALSE NEIGHBOUR: 'it returns false'. Refute it at one input. -/
def commuteTellsWrong : ChangeSpec := { name := "commuteTells", fn := fun _ => fun
  | [d1, d2, d3] => { results := [.lit (.bool false)], args := [d1, d2, d3] }
  | _ => none }
def CommuteTellsWrongFalsely : Prop := commuteTellsRow.holds Tryd.pinned (OpenSpec.ofChange commuteTellsWrong)

/-- 'counterpanelaw10.CommuteBack': WHATEVER THE INPUT: true; the input reads as it did. -/
def commuteBackSpec : ChangeSpec := { name := "commuteBack", fn := fun _ => fun
  | [d1, d2] => { results := [.lit (.bool true)], args := [d1, d2] }
  | _ => none }
def commuteBackRow : OpenClaim := { program := "ythhohbidjhcjeaadoor", sum := "f63f41721260c882048da2f2698fac5a43065a24af6618ec21d17ad52c952650", func := "counterpane/counterpanelaw10.CommuteBack", spec := "commuteBack", inPlace := ["internal/bytealg.IndexByteString", "internal/bytealg.IndexString"], unfollowed := true, recurses := true, named := ["unicode/utf8.first", "unicode/utf8.acceptRanges", "internal/bytealg.MaxLen"], apart := false, laid := [("unicode/utf8.acceptRanges", laid_unicode_utf8_acceptRanges), ("unicode/utf8.first", laid_unicode_utf8_first)] }
def CommuteBackSaid : Prop := commuteBackRow.holds Tryd.pinned (OpenSpec.ofChange commuteBackSpec)

/-- ITS FALSE NEIGHBOUR: 'it returns false'. Refute it at one input. -/
def commuteBackWrong : ChangeSpec := { name := "commuteBack", fn := fun _ => fun
  | [d1, d2] => { results := [.lit (.bool false)], args := [d1, d2] }
  | _ => none }
def CommuteBackWrongFalsely : Prop := commuteBackRow.holds Tryd.pinned (OpenSpec.ofChange commuteBackWrong)

/-- 'counterpanelaw10.CommuteApart': WHATEVER THE INPUT: true; the input reads as it did. -/
def commuteApartSpec : ChangeSpec := { name := "commuteApart", fn := fun _ => fun
  | [d1, d2] => { results := [.lit (.bool true)], args := [d1, d2] }
  | _ => none }
def commuteApartRow : OpenClaim := { program := "ythhohbidjhcjeaadoor", sum := "f63f41721260c882048da2f2698fac5a43065a24af6618ec21d17ad52c952650", func := "counterpane/counterpanelaw10.CommuteApart", spec := "commuteApart", inPlace := ["internal/bytealg.IndexByteString", "internal/bytealg.IndexString"], unfollowed := true, recurses := true, named := ["unicode/utf8.first", "unicode/utf8.acceptRanges", "internal/bytealg.MaxLen"], apart := false, laid := [("unicode/utf8.acceptRanges", laid_unicode_utf8_acceptRanges), ("unicode/utf8.first", laid_unicode_utf8_first)] }
def CommuteApartSaid : Prop := commuteApartRow.holds Tryd.pinned (OpenSpec.ofChange commuteApartSpec)

/-- ITS FALSE NEIGHBOUR: 'it returns false'. Refute it at one input. -/
def commuteApartWrong : ChangeSpec := { name := "commuteApart", fn := fun _ => fun
  | [d1, d2] => { results := [.lit (.bool false)], args := [d1, d2] }
  | _ => none }
def CommuteApartWrongFalsely : Prop := commuteApartRow.holds Tryd.pinned (OpenSpec.ofChange commuteApartWrong)

/-- 'counterpanelaw10.CommuteInverse': WHATEVER THE INPUT: true; the input reads as it did. -/
def commuteInverseSpec : ChangeSpec := { name := "commuteInverse", fn := fun _ => fun
  | [d1, d2] => { results := [.lit (.bool true)], args := [d1, d2] }
  | _ => none }
def commuteInverseRow : OpenClaim := { program := "ythhohbidjhcjeaadoor", sum := "f63f41721260c882048da2f2698fac5a43065a24af6618ec21d17ad52c952650", func := "counterpane/counterpanelaw10.CommuteInverse", spec := "commuteInverse", inPlace := ["internal/bytealg.IndexByteString", "internal/bytealg.IndexString"], unfollowed := true, recurses := true, named := ["unicode/utf8.first", "unicode/utf8.acceptRanges", "internal/bytealg.MaxLen"], apart := false, laid := [("unicode/utf8.acceptRanges", laid_unicode_utf8_acceptRanges), ("unicode/utf8.first", laid_unicode_utf8_first)] }
def CommuteInverseSaid : Prop := commuteInverseRow.holds Tryd.pinned (OpenSpec.ofChange commuteInverseSpec)

/-- ITS FALSE NEIGHBOUR: 'it returns false'. Refute it at one input. -/
def commuteInverseWrong : ChangeSpec := { name := "commuteInverse", fn := fun _ => fun
  | [d1, d2] => { results := [.lit (.bool false)], args := [d1, d2] }
  | _ => none }
def CommuteInverseWrongFalsely : Prop := commuteInverseRow.holds Tryd.pinned (OpenSpec.ofChange commuteInverseWrong)

/-- 'counterpanelaw10.CommuteLines': WHATEVER THE INPUT: true; the input reads as it did. -/
def commuteLinesSpec : ChangeSpec := { name := "commuteLines", fn := fun _ => fun
  | [d1, d2, d3, d4, d5, d6] => { results := [.lit (.bool true)], args := [d1, d2, d3, d4, d5, d6] }
  | _ => none }
def commuteLinesRow : OpenClaim := { program := "ythhohbidjhcjeaadoor", sum := "f63f41721260c882048da2f2698fac5a43065a24af6618ec21d17ad52c952650", func := "counterpane/counterpanelaw10.CommuteLines", spec := "commuteLines", inPlace := ["internal/bytealg.IndexByteString", "internal/bytealg.IndexString"], unfollowed := true, recurses := true, named := ["unicode/utf8.first", "unicode/utf8.acceptRanges", "internal/bytealg.MaxLen"], apart := false, laid := [("unicode/utf8.acceptRanges", laid_unicode_utf8_acceptRanges), ("unicode/utf8.first", laid_unicode_utf8_first)] }
def CommuteLinesSaid : Prop := commuteLinesRow.holds Tryd.pinned (OpenSpec.ofChange commuteLinesSpec)

/-- ITS FALSE NEIGHBOUR: 'it returns false'. Refute it at one input. -/
def commuteLinesWrong : ChangeSpec := { name := "commuteLines", fn := fun _ => fun
  | [d1, d2, d3, d4, d5, d6] => { results := [.lit (.bool false)], args := [d1, d2, d3, d4, d5, d6] }
  | _ => none }
def CommuteLinesWrongFalsely : Prop := commuteLinesRow.holds Tryd.pinned (OpenSpec.ofChange commuteLinesWrong)

/-- 'counterpanelaw10.CommuteOver': WHATEVER THE INPUT: true; the input reads as it did. -/
def commuteOverSpec : ChangeSpec := { name := "commuteOver", fn := fun _ => fun
  | [d1, d2, d3] => { results := [.lit (.bool true)], args := [d1, d2, d3] }
  | _ => none }
def commuteOverRow : OpenClaim := { program := "ythhohbidjhcjeaadoor", sum := "f63f41721260c882048da2f2698fac5a43065a24af6618ec21d17ad52c952650", func := "counterpane/counterpanelaw10.CommuteOver", spec := "commuteOver", inPlace := ["internal/bytealg.IndexByteString", "internal/bytealg.IndexString"], unfollowed := true, recurses := true, named := ["unicode/utf8.first", "unicode/utf8.acceptRanges", "internal/bytealg.MaxLen"], apart := false, laid := [("unicode/utf8.acceptRanges", laid_unicode_utf8_acceptRanges), ("unicode/utf8.first", laid_unicode_utf8_first)] }
def CommuteOverSaid : Prop := commuteOverRow.holds Tryd.pinned (OpenSpec.ofChange commuteOverSpec)

/-- ITS FALSE NEIGHBOUR: 'it returns false'. Refute it at one input. -/
def commuteOverWrong : ChangeSpec := { name := "commuteOver", fn := fun _ => fun
  | [d1, d2, d3] => { results := [.lit (.bool false)], args := [d1, d2, d3] }
  | _ => none }
def CommuteOverWrongFalsely : Prop := commuteOverRow.holds Tryd.pinned (OpenSpec.ofChange commuteOverWrong)

/-- 'counterpanelaw12.RecordTells': WHATEVER THE INPUT: true; the input reads as it did. -/
def recordTellsSpec : ChangeSpec := { name := "recordTells", fn := fun _ => fun
  | [d1, d2] => { results := [.lit (.bool true)], args := [d1, d2] }
  | _ => none }
def recordTellsRow : OpenClaim := { program := "ythhohbidjhcjeaadoor", sum := "f63f41721260c882048da2f2698fac5a43065a24af6618ec21d17ad52c952650", func := "counterpane/counterpanelaw12.RecordTells", spec := "recordTells", inPlace := ["internal/bytealg.IndexByteString", "internal/bytealg.IndexString", "math.Float64frombits", "math.Float64bits"], unfollowed := true, recurses := true, named := ["unicode/utf8.first", "unicode/utf8.acceptRanges", "internal/bytealg.MaxLen"], apart := false, laid := [("unicode/utf8.acceptRanges", laid_unicode_utf8_acceptRanges), ("unicode/utf8.first", laid_unicode_utf8_first)] }
def RecordTellsSaid : Prop := recordTellsRow.holds Tryd.pinned (OpenSpec.ofChange recordTellsSpec)

/-- ITS FALSE NEIGHBOUR: 'it returns false'. Refute it at one input. -/
def recordTellsWrong : ChangeSpec := { name := "recordTells", fn := fun _ => fun
  | [d1, d2] => { results := [.lit (.bool false)], args := [d1, d2] }
  | _ => none }
def RecordTellsWrongFalsely : Prop := recordTellsRow.holds Tryd.pinned (OpenSpec.ofChange recordTellsWrong)

/-- 'counterpanelaw12.RecordRight': WHATEVER THE INPUT: true; the input reads as it did. -/
def recordRightSpec : ChangeSpec := { name := "recordRight", fn := fun _ => fun
  | [d1, d2] => { results := [.lit (.bool true)], args := [d1, d2] }
  | _ => none }
def recordRightRow : OpenClaim := { program := "ythhohbidjhcjeaadoor", sum := "f63f41721260c882048da2f2698fac5a43065a24af6618ec21d17ad52c952650", func := "counterpane/counterpanelaw12.RecordRight", spec := "recordRight", inPlace := ["internal/bytealg.IndexByteString", "internal/bytealg.IndexString", "math.Float64frombits", "math.Float64bits"], unfollowed := true, recurses := true, named := ["unicode/utf8.first", "unicode/utf8.acceptRanges", "internal/bytealg.MaxLen"], apart := false, laid := [("unicode/utf8.acceptRanges", laid_unicode_utf8_acceptRanges), ("unicode/utf8.first", laid_unicode_utf8_first)] }
def RecordRightSaid : Prop := recordRightRow.holds Tryd.pinned (OpenSpec.ofChange recordRightSpec)

/-- ITS FALSE NEIGHBOUR: 'it returns false'. Refute it at one input. -/
def recordRightWrong : ChangeSpec := { name := "recordRight", fn := fun _ => fun
  | [d1, d2] => { results := [.lit (.bool false)], args := [d1, d2] }
  | _ => none }
def RecordRightWrongFalsely : Prop := recordRightRow.holds Tryd.pinned (OpenSpec.ofChange recordRightWrong)

/-- 'counterpanelaw11.SeqTells': WHATEVER THE INPUT: true; the input reads as it did. -/
def seqTellsSpec : ChangeSpec := { name := "seqTells", fn := fun _ => fun
  | [d1, d2, d3] => { results := [.lit (.bool true)], args := [d1, d2, d3] }
  | _ => none }
def seqTellsRow : OpenClaim := { program := "ythhohbidjhcjeaadoor", sum := "f63f41721260c882048da2f2698fac5a43065a24af6618ec21d17ad52c952650", func := "counterpane/counterpanelaw11.SeqTells", spec := "seqTells", inPlace := ["internal/bytealg.IndexByteString", "internal/bytealg.IndexString"], unfollowed := true, recurses := true, named := ["unicode/utf8.first", "unicode/utf8.acceptRanges", "internal/bytealg.MaxLen"], apart := false, laid := [("unicode/utf8.acceptRanges", laid_unicode_utf8_acceptRanges), ("unicode/utf8.first", laid_unicode_utf8_first)] }
def SeqTellsSaid : Prop := seqTellsRow.holds Tryd.pinned (OpenSpec.ofChange seqTellsSpec)

/-- ITS FALSE NEIGHBOUR: 'it returns false'. Refute it at one input. -/
def seqTellsWrong : ChangeSpec := { name := "seqTells", fn := fun _ => fun
  | [d1, d2, d3] => { results := [.lit (.bool false)], args := [d1, d2, d3] }
  | _ => none }
def SeqTellsWrongFalsely : Prop := seqTellsRow.holds Tryd.pinned (OpenSpec.ofChange seqTellsWrong)

/-- 'counterpanelaw11.SeqEmpty': WHATEVER THE INPUT: true; the input reads as it did. -/
def seqEmptySpec : ChangeSpec := { name := "seqEmpty", fn := fun _ => fun
  | [d1, d2, d3] => { results := [.lit (.bool true)], args := [d1, d2, d3] }
  | _ => none }
def seqEmptyRow : OpenClaim := { program := "ythhohbidjhcjeaadoor", sum := "f63f41721260c882048da2f2698fac5a43065a24af6618ec21d17ad52c952650", func := "counterpane/counterpanelaw11.SeqEmpty", spec := "seqEmpty", inPlace := ["internal/bytealg.IndexByteString", "internal/bytealg.IndexString"], unfollowed := true, recurses := true, named := ["unicode/utf8.first", "unicode/utf8.acceptRanges", "internal/bytealg.MaxLen"], apart := false, laid := [("unicode/utf8.acceptRanges", laid_unicode_utf8_acceptRanges), ("unicode/utf8.first", laid_unicode_utf8_first)] }
def SeqEmptySaid : Prop := seqEmptyRow.holds Tryd.pinned (OpenSpec.ofChange seqEmptySpec)

/-- ITS FALSE NEIGHBOUR: 'it returns false'. Refute it at one input. -/
def seqEmptyWrong : ChangeSpec := { name := "seqEmpty", fn := fun _ => fun
  | [d1, d2, d3] => { results := [.lit (.bool false)], args := [d1, d2, d3] }
  | _ => none }
def SeqEmptyWrongFalsely : Prop := seqEmptyRow.holds Tryd.pinned (OpenSpec.ofChange seqEmptyWrong)

/-- 'counterpanelaw11.SeqUndone': WHATEVER THE INPUT: true; the input reads as it did. -/
def seqUndoneSpec : ChangeSpec := { name := "seqUndone", fn := fun _ => fun
  | [d] => { results := [.lit (.bool true)], args := [d] }
  | _ => none }
def seqUndoneRow : OpenClaim := { program := "ythhohbidjhcjeaadoor", sum := "f63f41721260c882048da2f2698fac5a43065a24af6618ec21d17ad52c952650", func := "counterpane/counterpanelaw11.SeqUndone", spec := "seqUndone", inPlace := ["internal/bytealg.IndexByteString", "internal/bytealg.IndexString"], unfollowed := true, recurses := true, named := ["unicode/utf8.first", "unicode/utf8.acceptRanges", "internal/bytealg.MaxLen"], apart := false, laid := [("unicode/utf8.acceptRanges", laid_unicode_utf8_acceptRanges), ("unicode/utf8.first", laid_unicode_utf8_first)] }
def SeqUndoneSaid : Prop := seqUndoneRow.holds Tryd.pinned (OpenSpec.ofChange seqUndoneSpec)

/-- ITS FALSE NEIGHBOUR: 'it returns false'. Refute it at one input. -/
def seqUndoneWrong : ChangeSpec := { name := "seqUndone", fn := fun _ => fun
  | [d] => { results := [.lit (.bool false)], args := [d] }
  | _ => none }
def SeqUndoneWrongFalsely : Prop := seqUndoneRow.holds Tryd.pinned (OpenSpec.ofChange seqUndoneWrong)

/- THE SECOND FORM. 'bulk': how many values and letters a reading holds, each counted each time it is reached (what is shared counts as often as it is met; a slice's spare places count too). A statement '..UptoSaid' is the law's where the arguments, and the package variables that the reading takes, are together of bulk at most 1048576: NARROWER than '..Said'. Prove '..Said' where nothing that the law and all that it calls make is longer than what came in: it says more and counts as full. Else prove '..UptoSaid'. A law counts once. -/
mutual
def uptoBulk {H : Type} : DataW H → Nat
  | .lit (.string bytes) => bytes.length + 1
  | .lit _ => 1
  | .nil => 1
  | .ptr d => uptoBulk d + 1
  | .slice elems spare => uptoBulkAll elems + uptoBulkAll spare + 1
  | .agg parts => uptoBulkAll parts + 1
  | .iface _ d => uptoBulk d + 1
  | .map entries => uptoBulkEntries entries + 1
  | .held _ => 1
def uptoBulkAll {H : Type} : List (DataW H) → Nat
  | [] => 0
  | d :: r => uptoBulk d + uptoBulkAll r
def uptoBulkEntries {H : Type} : List (Lit × DataW H) → Nat
  | [] => 0
  | x :: r => uptoBulkEntry x + uptoBulkEntries r
def uptoBulkEntry {H : Type} : Lit × DataW H → Nat
  | (.string bytes, d) => bytes.length + uptoBulk d + 1
  | (_, d) => uptoBulk d + 1
 end
def uptoSmall : (H : Type) → List (DataW H) → Bool := fun _ ds => decide (uptoBulkAll ds ≤ 1048576)
def OpenSpec.upto (s : _root_.Go.ChangeSpec) : _root_.Go.OpenSpec := { _root_.Go.OpenSpec.ofChange s with cond := some uptoSmall }

/-- 'counterpanelaw09.InvertTwice', WHERE WHAT IT READS IS OF BULK AT MOST 1048576: true; the input reads as it did. -/
def invertTwiceUptoRow : OpenClaim := { program := "ythhohbidjhcjeaadoor", sum := "f63f41721260c882048da2f2698fac5a43065a24af6618ec21d17ad52c952650", func := "counterpane/counterpanelaw09.InvertTwice", spec := "invertTwice", inPlace := ["internal/bytealg.IndexByteString", "internal/bytealg.IndexString"], unfollowed := true, recurses := true, named := ["unicode/utf8.first", "unicode/utf8.acceptRanges", "internal/bytealg.MaxLen"], apart := false, laid := [("unicode/utf8.acceptRanges", laid_unicode_utf8_acceptRanges), ("unicode/utf8.first", laid_unicode_utf8_first)], narrowed := true }
def InvertTwiceUptoSaid : Prop := invertTwiceUptoRow.holds Tryd.pinned (OpenSpec.upto invertTwiceSpec)

/-- 'counterpanelaw10.CommuteTells', WHERE WHAT IT READS IS OF BULK AT MOST 1048576: true; the input reads as it did. -/
def commuteTellsUptoRow : OpenClaim := { program := "ythhohbidjhcjeaadoor", sum := "f63f41721260c882048da2f2698fac5a43065a24af6618ec21d17ad52c952650", func := "counterpane/counterpanelaw10.CommuteTells", spec := "commuteTells", inPlace := ["internal/bytealg.IndexByteString", "internal/bytealg.IndexString"], unfollowed := true, recurses := true, named := ["unicode/utf8.first", "unicode/utf8.acceptRanges", "internal/bytealg.MaxLen"], apart := false, laid := [("unicode/utf8.acceptRanges", laid_unicode_utf8_acceptRanges), ("unicode/utf8.first", laid_unicode_utf8_first)], narrowed := true }
def CommuteTellsUptoSaid : Prop := commuteTellsUptoRow.holds Tryd.pinned (OpenSpec.upto commuteTellsSpec)

/-- 'counterpanelaw10.CommuteBack', WHERE WHAT IT READS IS OF BULK AT MOST 1048576: true; the input reads as it did. -/
def commuteBackUptoRow : OpenClaim := { program := "ythhohbidjhcjeaadoor", sum := "f63f41721260c882048da2f2698fac5a43065a24af6618ec21d17ad52c952650", func := "counterpane/counterpanelaw10.CommuteBack", spec := "commuteBack", inPlace := ["internal/bytealg.IndexByteString", "internal/bytealg.IndexString"], unfollowed := true, recurses := true, named := ["unicode/utf8.first", "unicode/utf8.acceptRanges", "internal/bytealg.MaxLen"], apart := false, laid := [("unicode/utf8.acceptRanges", laid_unicode_utf8_acceptRanges), ("unicode/utf8.first", laid_unicode_utf8_first)], narrowed := true }
def CommuteBackUptoSaid : Prop := commuteBackUptoRow.holds Tryd.pinned (OpenSpec.upto commuteBackSpec)

/-- 'counterpanelaw10.CommuteApart', WHERE WHAT IT READS IS OF BULK AT MOST 1048576: true; the input reads as it did. -/
def commuteApartUptoRow : OpenClaim := { program := "ythhohbidjhcjeaadoor", sum := "f63f41721260c882048da2f2698fac5a43065a24af6618ec21d17ad52c952650", func := "counterpane/counterpanelaw10.CommuteApart", spec := "commuteApart", inPlace := ["internal/bytealg.IndexByteString", "internal/bytealg.IndexString"], unfollowed := true, recurses := true, named := ["unicode/utf8.first", "unicode/utf8.acceptRanges", "internal/bytealg.MaxLen"], apart := false, laid := [("unicode/utf8.acceptRanges", laid_unicode_utf8_acceptRanges), ("unicode/utf8.first", laid_unicode_utf8_first)], narrowed := true }
def CommuteApartUptoSaid : Prop := commuteApartUptoRow.holds Tryd.pinned (OpenSpec.upto commuteApartSpec)

/-- 'counterpanelaw10.CommuteInverse', WHERE WHAT IT READS IS OF BULK AT MOST 1048576: true; the input reads as it did. -/
def commuteInverseUptoRow : OpenClaim := { program := "ythhohbidjhcjeaadoor", sum := "f63f41721260c882048da2f2698fac5a43065a24af6618ec21d17ad52c952650", func := "counterpane/counterpanelaw10.CommuteInverse", spec := "commuteInverse", inPlace := ["internal/bytealg.IndexByteString", "internal/bytealg.IndexString"], unfollowed := true, recurses := true, named := ["unicode/utf8.first", "unicode/utf8.acceptRanges", "internal/bytealg.MaxLen"], apart := false, laid := [("unicode/utf8.acceptRanges", laid_unicode_utf8_acceptRanges), ("unicode/utf8.first", laid_unicode_utf8_first)], narrowed := true }
def CommuteInverseUptoSaid : Prop := commuteInverseUptoRow.holds Tryd.pinned (OpenSpec.upto commuteInverseSpec)

/-- 'counterpanelaw10.CommuteLines', WHERE WHAT IT READS IS OF BULK AT MOST 1048576: true; the input reads as it did. -/
def commuteLinesUptoRow : OpenClaim := { program := "ythhohbidjhcjeaadoor", sum := "f63f41721260c882048da2f2698fac5a43065a24af6618ec21d17ad52c952650", func := "counterpane/counterpanelaw10.CommuteLines", spec := "commuteLines", inPlace := ["internal/bytealg.IndexByteString", "internal/bytealg.IndexString"], unfollowed := true, recurses := true, named := ["unicode/utf8.first", "unicode/utf8.acceptRanges", "internal/bytealg.MaxLen"], apart := false, laid := [("unicode/utf8.acceptRanges", laid_unicode_utf8_acceptRanges), ("unicode/utf8.first", laid_unicode_utf8_first)], narrowed := true }
def CommuteLinesUptoSaid : Prop := commuteLinesUptoRow.holds Tryd.pinned (OpenSpec.upto commuteLinesSpec)

/-- 'counterpanelaw10.CommuteOver', WHERE WHAT IT READS IS OF BULK AT MOST 1048576: true; the input reads as it did. -/
def commuteOverUptoRow : OpenClaim := { program := "ythhohbidjhcjeaadoor", sum := "f63f41721260c882048da2f2698fac5a43065a24af6618ec21d17ad52c952650", func := "counterpane/counterpanelaw10.CommuteOver", spec := "commuteOver", inPlace := ["internal/bytealg.IndexByteString", "internal/bytealg.IndexString"], unfollowed := true, recurses := true, named := ["unicode/utf8.first", "unicode/utf8.acceptRanges", "internal/bytealg.MaxLen"], apart := false, laid := [("unicode/utf8.acceptRanges", laid_unicode_utf8_acceptRanges), ("unicode/utf8.first", laid_unicode_utf8_first)], narrowed := true }
def CommuteOverUptoSaid : Prop := commuteOverUptoRow.holds Tryd.pinned (OpenSpec.upto commuteOverSpec)

/-- 'counterpanelaw12.RecordTells', WHERE WHAT IT READS IS OF BULK AT MOST 1048576: true; the input reads as it did. -/
def recordTellsUptoRow : OpenClaim := { program := "ythhohbidjhcjeaadoor", sum := "f63f41721260c882048da2f2698fac5a43065a24af6618ec21d17ad52c952650", func := "counterpane/counterpanelaw12.RecordTells", spec := "recordTells", inPlace := ["internal/bytealg.IndexByteString", "internal/bytealg.IndexString", "math.Float64frombits", "math.Float64bits"], unfollowed := true, recurses := true, named := ["unicode/utf8.first", "unicode/utf8.acceptRanges", "internal/bytealg.MaxLen"], apart := false, laid := [("unicode/utf8.acceptRanges", laid_unicode_utf8_acceptRanges), ("unicode/utf8.first", laid_unicode_utf8_first)], narrowed := true }
def RecordTellsUptoSaid : Prop := recordTellsUptoRow.holds Tryd.pinned (OpenSpec.upto recordTellsSpec)

/-- 'counterpanelaw12.RecordRight', WHERE WHAT IT READS IS OF BULK AT MOST 1048576: true; the input reads as it did. -/
def recordRightUptoRow : OpenClaim := { program := "ythhohbidjhcjeaadoor", sum := "f63f41721260c882048da2f2698fac5a43065a24af6618ec21d17ad52c952650", func := "counterpane/counterpanelaw12.RecordRight", spec := "recordRight", inPlace := ["internal/bytealg.IndexByteString", "internal/bytealg.IndexString", "math.Float64frombits", "math.Float64bits"], unfollowed := true, recurses := true, named := ["unicode/utf8.first", "unicode/utf8.acceptRanges", "internal/bytealg.MaxLen"], apart := false, laid := [("unicode/utf8.acceptRanges", laid_unicode_utf8_acceptRanges), ("unicode/utf8.first", laid_unicode_utf8_first)], narrowed := true }
def RecordRightUptoSaid : Prop := recordRightUptoRow.holds Tryd.pinned (OpenSpec.upto recordRightSpec)

/-- 'counterpanelaw11.SeqTells', WHERE WHAT IT READS IS OF BULK AT MOST 1048576: true; the input reads as it did. -/
def seqTellsUptoRow : OpenClaim := { program := "ythhohbidjhcjeaadoor", sum := "f63f41721260c882048da2f2698fac5a43065a24af6618ec21d17ad52c952650", func := "counterpane/counterpanelaw11.SeqTells", spec := "seqTells", inPlace := ["internal/bytealg.IndexByteString", "internal/bytealg.IndexString"], unfollowed := true, recurses := true, named := ["unicode/utf8.first", "unicode/utf8.acceptRanges", "internal/bytealg.MaxLen"], apart := false, laid := [("unicode/utf8.acceptRanges", laid_unicode_utf8_acceptRanges), ("unicode/utf8.first", laid_unicode_utf8_first)], narrowed := true }
def SeqTellsUptoSaid : Prop := seqTellsUptoRow.holds Tryd.pinned (OpenSpec.upto seqTellsSpec)

/-- 'counterpanelaw11.SeqEmpty', WHERE WHAT IT READS IS OF BULK AT MOST 1048576: true; the input reads as it did. -/
def seqEmptyUptoRow : OpenClaim := { program := "ythhohbidjhcjeaadoor", sum := "f63f41721260c882048da2f2698fac5a43065a24af6618ec21d17ad52c952650", func := "counterpane/counterpanelaw11.SeqEmpty", spec := "seqEmpty", inPlace := ["internal/bytealg.IndexByteString", "internal/bytealg.IndexString"], unfollowed := true, recurses := true, named := ["unicode/utf8.first", "unicode/utf8.acceptRanges", "internal/bytealg.MaxLen"], apart := false, laid := [("unicode/utf8.acceptRanges", laid_unicode_utf8_acceptRanges), ("unicode/utf8.first", laid_unicode_utf8_first)], narrowed := true }
def SeqEmptyUptoSaid : Prop := seqEmptyUptoRow.holds Tryd.pinned (OpenSpec.upto seqEmptySpec)

/-- 'counterpanelaw11.SeqUndone', WHERE WHAT IT READS IS OF BULK AT MOST 1048576: true; the input reads as it did. -/
def seqUndoneUptoRow : OpenClaim := { program := "ythhohbidjhcjeaadoor", sum := "f63f41721260c882048da2f2698fac5a43065a24af6618ec21d17ad52c952650", func := "counterpane/counterpanelaw11.SeqUndone", spec := "seqUndone", inPlace := ["internal/bytealg.IndexByteString", "internal/bytealg.IndexString"], unfollowed := true, recurses := true, named := ["unicode/utf8.first", "unicode/utf8.acceptRanges", "internal/bytealg.MaxLen"], apart := false, laid := [("unicode/utf8.acceptRanges", laid_unicode_utf8_acceptRanges), ("unicode/utf8.first", laid_unicode_utf8_first)], narrowed := true }
def SeqUndoneUptoSaid : Prop := seqUndoneUptoRow.holds Tryd.pinned (OpenSpec.upto seqUndoneSpec)

end Rows
end Go.Proofs.YthhohbidjhcjeaaDoor
