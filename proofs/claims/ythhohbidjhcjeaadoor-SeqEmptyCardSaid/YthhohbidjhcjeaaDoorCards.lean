/-
  DERIVED. GIVEN WITH THE SEED: THE CARDS: each row of YthhohbidjhcjeaaDoorRows.lean that lists a variable, with what it lists TIED to the program's text (the seventh form; the later family's looks); each row that meets fmt, with fmt's text TOLD by the authors' own Lean function (tested against real Go, not proved from fmt's source: count such statements apart). THE CARD IS WHAT COUNTS. Prove the row's statement (the work); the ties are given (YthhohbidjhcjeaaDoorTie.lean); close each card by the builder's one call (the guide's Derived/Test/ToyasCard.lean, 'card_holds'). Laid BY PROGRAM, IN A SANDBOX (cutbox-door.mjs). By AI agents, Wed Nov 11 2026. No macro, syntax, notation, axiom, sorry.
-/
import Derived.Test.YthhohbidjhcjeaaDoorRows
import GoSem.ClaimSeven
namespace Go.Proofs.YthhohbidjhcjeaaDoor
namespace Rows

/-- THE TIED CARD OF 'counterpanelaw09.InvertTwice'. -/
def invertTwiceCard : Claim7 := { stood := { row := invertTwiceRow, standIns := [], harness := (true, "0a251ecfe7ff6804b17a262088b2e9602ece1cbe531fc6497e775b1d705626d6"), looks := false }, kinds := [], alts := [], laidByText := true, laidKinds := [.data, .pinned], laidTests := true, laidLooks := .later }
def InvertTwiceCardSaid : Prop := Claim7.holds Tryd.pinned (.plain (OpenSpec.ofChange invertTwiceSpec)) invertTwiceCard

/-- THE TIED CARD OF 'counterpanelaw10.CommuteTells'. -/
def commuteTellsCard : Claim7 := { stood := { row := commuteTellsRow, standIns := [], harness := (true, "0a251ecfe7ff6804b17a262088b2e9602ece1cbe531fc6497e775b1d705626d6"), looks := false }, kinds := [], alts := [], laidByText := true, laidKinds := [.data, .pinned], laidTests := true, laidLooks := .later }
def CommuteTellsCardSaid : Prop := Claim7.holds Tryd.pinned (.plain (OpenSpec.ofChange commuteTellsSpec)) commuteTellsCard

/-- THE TIED CARD OF 'counterpanelaw10.CommuteBack'. -/
def commuteBackCard : Claim7 := { stood := { row := commuteBackRow, standIns := [], harness := (true, "0a251ecfe7ff6804b17a262088b2e9602ece1cbe531fc6497e775b1d705626d6"), looks := false }, kinds := [], alts := [], laidByText := true, laidKinds := [.data, .pinned], laidTests := true, laidLooks := .later }
def CommuteBackCardSaid : Prop := Claim7.holds Tryd.pinned (.plain (OpenSpec.ofChange commuteBackSpec)) commuteBackCard

/-- THE TIED CARD OF 'counterpanelaw10.CommuteApart'. -/
def commuteApartCard : Claim7 := { stood := { row := commuteApartRow, standIns := [], harness := (true, "0a251ecfe7ff6804b17a262088b2e9602ece1cbe531fc6497e775b1d705626d6"), looks := false }, kinds := [], alts := [], laidByText := true, laidKinds := [.data, .pinned], laidTests := true, laidLooks := .later }
def CommuteApartCardSaid : Prop := Claim7.holds Tryd.pinned (.plain (OpenSpec.ofChange commuteApartSpec)) commuteApartCard

/-- THE TIED CARD OF 'counterpanelaw10.CommuteInverse'. -/
def commuteInverseCard : Claim7 := { stood := { row := commuteInverseRow, standIns := [], harness := (true, "0a251ecfe7ff6804b17a262088b2e9602ece1cbe531fc6497e775b1d705626d6"), looks := false }, kinds := [], alts := [], laidByText := true, laidKinds := [.data, .pinned], laidTests := true, laidLooks := .later }
def CommuteInverseCardSaid : Prop := Claim7.holds Tryd.pinned (.plain (OpenSpec.ofChange commuteInverseSpec)) commuteInverseCard

/-- THE TIED CARD OF 'counterpanelaw10.CommuteLines'. -/
def commuteLinesCard : Claim7 := { stood := { row := commuteLinesRow, standIns := [], harness := (true, "0a251ecfe7ff6804b17a262088b2e9602ece1cbe531fc6497e775b1d705626d6"), looks := false }, kinds := [], alts := [], laidByText := true, laidKinds := [.data, .pinned], laidTests := true, laidLooks := .later }
def CommuteLinesCardSaid : Prop := Claim7.holds Tryd.pinned (.plain (OpenSpec.ofChange commuteLinesSpec)) commuteLinesCard

/-- THE TIED CARD OF 'counterpanelaw10.CommuteOver'. -/
def commuteOverCard : Claim7 := { stood := { row := commuteOverRow, standIns := [], harness := (true, "0a251ecfe7ff6804b17a262088b2e9602ece1cbe531fc6497e775b1d705626d6"), looks := false }, kinds := [], alts := [], laidByText := true, laidKinds := [.data, .pinned], laidTests := true, laidLooks := .later }
def CommuteOverCardSaid : Prop := Claim7.holds Tryd.pinned (.plain (OpenSpec.ofChange commuteOverSpec)) commuteOverCard

/-- THE TIED CARD OF 'counterpanelaw12.RecordTells'. -/
def recordTellsCard : Claim7 := { stood := { row := recordTellsRow, standIns := [], harness := (true, "0a251ecfe7ff6804b17a262088b2e9602ece1cbe531fc6497e775b1d705626d6"), looks := false }, kinds := [], alts := [], laidByText := true, laidKinds := [.data, .pinned], laidTests := true, laidLooks := .later }
def RecordTellsCardSaid : Prop := Claim7.holds Tryd.pinned (.plain (OpenSpec.ofChange recordTellsSpec)) recordTellsCard

/-- THE TIED CARD OF 'counterpanelaw12.RecordRight'. -/
def recordRightCard : Claim7 := { stood := { row := recordRightRow, standIns := [], harness := (true, "0a251ecfe7ff6804b17a262088b2e9602ece1cbe531fc6497e775b1d705626d6"), looks := false }, kinds := [], alts := [], laidByText := true, laidKinds := [.data, .pinned], laidTests := true, laidLooks := .later }
def RecordRightCardSaid : Prop := Claim7.holds Tryd.pinned (.plain (OpenSpec.ofChange recordRightSpec)) recordRightCard

/-- THE TIED CARD OF 'counterpanelaw11.SeqTells'. -/
def seqTellsCard : Claim7 := { stood := { row := seqTellsRow, standIns := [], harness := (true, "0a251ecfe7ff6804b17a262088b2e9602ece1cbe531fc6497e775b1d705626d6"), looks := false }, kinds := [], alts := [], laidByText := true, laidKinds := [.data, .pinned], laidTests := true, laidLooks := .later }
def SeqTellsCardSaid : Prop := Claim7.holds Tryd.pinned (.plain (OpenSpec.ofChange seqTellsSpec)) seqTellsCard

/-- THE TIED CARD OF 'counterpanelaw11.SeqEmpty'. -/
def seqEmptyCard : Claim7 := { stood := { row := seqEmptyRow, standIns := [], harness := (true, "0a251ecfe7ff6804b17a262088b2e9602ece1cbe531fc6497e775b1d705626d6"), looks := false }, kinds := [], alts := [], laidByText := true, laidKinds := [.data, .pinned], laidTests := true, laidLooks := .later }
def SeqEmptyCardSaid : Prop := Claim7.holds Tryd.pinned (.plain (OpenSpec.ofChange seqEmptySpec)) seqEmptyCard

/-- THE TIED CARD OF 'counterpanelaw11.SeqUndone'. -/
def seqUndoneCard : Claim7 := { stood := { row := seqUndoneRow, standIns := [], harness := (true, "0a251ecfe7ff6804b17a262088b2e9602ece1cbe531fc6497e775b1d705626d6"), looks := false }, kinds := [], alts := [], laidByText := true, laidKinds := [.data, .pinned], laidTests := true, laidLooks := .later }
def SeqUndoneCardSaid : Prop := Claim7.holds Tryd.pinned (.plain (OpenSpec.ofChange seqUndoneSpec)) seqUndoneCard

/-- THE SECOND FORM's CARD OF 'counterpanelaw09.InvertTwice'. -/
def invertTwiceUptoCard : Claim7 := { stood := { row := invertTwiceUptoRow, standIns := [], harness := (true, "0a251ecfe7ff6804b17a262088b2e9602ece1cbe531fc6497e775b1d705626d6"), looks := false }, kinds := [], alts := [], laidByText := true, laidKinds := [.data, .pinned], laidTests := true, laidLooks := .later }
def InvertTwiceUptoCardSaid : Prop := Claim7.holds Tryd.pinned (.plain (OpenSpec.upto invertTwiceSpec)) invertTwiceUptoCard

/-- THE SECOND FORM's CARD OF 'counterpanelaw10.CommuteTells'. -/
def commuteTellsUptoCard : Claim7 := { stood := { row := commuteTellsUptoRow, standIns := [], harness := (true, "0a251ecfe7ff6804b17a262088b2e9602ece1cbe531fc6497e775b1d705626d6"), looks := false }, kinds := [], alts := [], laidByText := true, laidKinds := [.data, .pinned], laidTests := true, laidLooks := .later }
def CommuteTellsUptoCardSaid : Prop := Claim7.holds Tryd.pinned (.plain (OpenSpec.upto commuteTellsSpec)) commuteTellsUptoCard

/-- THE SECOND FORM's CARD OF 'counterpanelaw10.CommuteBack'. -/
def commuteBackUptoCard : Claim7 := { stood := { row := commuteBackUptoRow, standIns := [], harness := (true, "0a251ecfe7ff6804b17a262088b2e9602ece1cbe531fc6497e775b1d705626d6"), looks := false }, kinds := [], alts := [], laidByText := true, laidKinds := [.data, .pinned], laidTests := true, laidLooks := .later }
def CommuteBackUptoCardSaid : Prop := Claim7.holds Tryd.pinned (.plain (OpenSpec.upto commuteBackSpec)) commuteBackUptoCard

/-- THE SECOND FORM's CARD OF 'counterpanelaw10.CommuteApart'. -/
def commuteApartUptoCard : Claim7 := { stood := { row := commuteApartUptoRow, standIns := [], harness := (true, "0a251ecfe7ff6804b17a262088b2e9602ece1cbe531fc6497e775b1d705626d6"), looks := false }, kinds := [], alts := [], laidByText := true, laidKinds := [.data, .pinned], laidTests := true, laidLooks := .later }
def CommuteApartUptoCardSaid : Prop := Claim7.holds Tryd.pinned (.plain (OpenSpec.upto commuteApartSpec)) commuteApartUptoCard

/-- THE SECOND FORM's CARD OF 'counterpanelaw10.CommuteInverse'. -/
def commuteInverseUptoCard : Claim7 := { stood := { row := commuteInverseUptoRow, standIns := [], harness := (true, "0a251ecfe7ff6804b17a262088b2e9602ece1cbe531fc6497e775b1d705626d6"), looks := false }, kinds := [], alts := [], laidByText := true, laidKinds := [.data, .pinned], laidTests := true, laidLooks := .later }
def CommuteInverseUptoCardSaid : Prop := Claim7.holds Tryd.pinned (.plain (OpenSpec.upto commuteInverseSpec)) commuteInverseUptoCard

/-- THE SECOND FORM's CARD OF 'counterpanelaw10.CommuteLines'. -/
def commuteLinesUptoCard : Claim7 := { stood := { row := commuteLinesUptoRow, standIns := [], harness := (true, "0a251ecfe7ff6804b17a262088b2e9602ece1cbe531fc6497e775b1d705626d6"), looks := false }, kinds := [], alts := [], laidByText := true, laidKinds := [.data, .pinned], laidTests := true, laidLooks := .later }
def CommuteLinesUptoCardSaid : Prop := Claim7.holds Tryd.pinned (.plain (OpenSpec.upto commuteLinesSpec)) commuteLinesUptoCard

/-- THE SECOND FORM's CARD OF 'counterpanelaw10.CommuteOver'. -/
def commuteOverUptoCard : Claim7 := { stood := { row := commuteOverUptoRow, standIns := [], harness := (true, "0a251ecfe7ff6804b17a262088b2e9602ece1cbe531fc6497e775b1d705626d6"), looks := false }, kinds := [], alts := [], laidByText := true, laidKinds := [.data, .pinned], laidTests := true, laidLooks := .later }
def CommuteOverUptoCardSaid : Prop := Claim7.holds Tryd.pinned (.plain (OpenSpec.upto commuteOverSpec)) commuteOverUptoCard

/-- THE SECOND FORM's CARD OF 'counterpanelaw12.RecordTells'. -/
def recordTellsUptoCard : Claim7 := { stood := { row := recordTellsUptoRow, standIns := [], harness := (true, "0a251ecfe7ff6804b17a262088b2e9602ece1cbe531fc6497e775b1d705626d6"), looks := false }, kinds := [], alts := [], laidByText := true, laidKinds := [.data, .pinned], laidTests := true, laidLooks := .later }
def RecordTellsUptoCardSaid : Prop := Claim7.holds Tryd.pinned (.plain (OpenSpec.upto recordTellsSpec)) recordTellsUptoCard

/-- THE SECOND FORM's CARD OF 'counterpanelaw12.RecordRight'. -/
def recordRightUptoCard : Claim7 := { stood := { row := recordRightUptoRow, standIns := [], harness := (true, "0a251ecfe7ff6804b17a262088b2e9602ece1cbe531fc6497e775b1d705626d6"), looks := false }, kinds := [], alts := [], laidByText := true, laidKinds := [.data, .pinned], laidTests := true, laidLooks := .later }
def RecordRightUptoCardSaid : Prop := Claim7.holds Tryd.pinned (.plain (OpenSpec.upto recordRightSpec)) recordRightUptoCard

/-- THE SECOND FORM's CARD OF 'counterpanelaw11.SeqTells'. -/
def seqTellsUptoCard : Claim7 := { stood := { row := seqTellsUptoRow, standIns := [], harness := (true, "0a251ecfe7ff6804b17a262088b2e9602ece1cbe531fc6497e775b1d705626d6"), looks := false }, kinds := [], alts := [], laidByText := true, laidKinds := [.data, .pinned], laidTests := true, laidLooks := .later }
def SeqTellsUptoCardSaid : Prop := Claim7.holds Tryd.pinned (.plain (OpenSpec.upto seqTellsSpec)) seqTellsUptoCard

/-- THE SECOND FORM's CARD OF 'counterpanelaw11.SeqEmpty'. -/
def seqEmptyUptoCard : Claim7 := { stood := { row := seqEmptyUptoRow, standIns := [], harness := (true, "0a251ecfe7ff6804b17a262088b2e9602ece1cbe531fc6497e775b1d705626d6"), looks := false }, kinds := [], alts := [], laidByText := true, laidKinds := [.data, .pinned], laidTests := true, laidLooks := .later }
def SeqEmptyUptoCardSaid : Prop := Claim7.holds Tryd.pinned (.plain (OpenSpec.upto seqEmptySpec)) seqEmptyUptoCard

/-- THE SECOND FORM's CARD OF 'counterpanelaw11.SeqUndone'. -/
def seqUndoneUptoCard : Claim7 := { stood := { row := seqUndoneUptoRow, standIns := [], harness := (true, "0a251ecfe7ff6804b17a262088b2e9602ece1cbe531fc6497e775b1d705626d6"), looks := false }, kinds := [], alts := [], laidByText := true, laidKinds := [.data, .pinned], laidTests := true, laidLooks := .later }
def SeqUndoneUptoCardSaid : Prop := Claim7.holds Tryd.pinned (.plain (OpenSpec.upto seqUndoneSpec)) seqUndoneUptoCard
end Rows
end Go.Proofs.YthhohbidjhcjeaaDoor
