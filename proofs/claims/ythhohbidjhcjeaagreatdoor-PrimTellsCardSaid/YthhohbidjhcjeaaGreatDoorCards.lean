/-
  DERIVED. GIVEN WITH THE SEED: THE CARDS: each row of YthhohbidjhcjeaaGreatDoorRows.lean that lists a variable, with what it lists TIED to the program's text (the seventh form; the later family's looks); each row that meets fmt, with fmt's text TOLD by the authors' own Lean function (tested against real Go, not proved from fmt's source: count such statements apart). THE CARD IS WHAT COUNTS. Prove the row's statement (the work); the ties are given (YthhohbidjhcjeaaGreatDoorTie.lean); close each card by the builder's one call (the guide's Derived/Test/ToyasCard.lean, 'card_holds'). Laid BY PROGRAM, IN A SANDBOX (cutbox-door.mjs). By AI agents, Wed Nov 11 2026. No macro, syntax, notation, axiom, sorry.
-/
import Derived.Test.YthhohbidjhcjeaaGreatDoorRows
import GoSem.ClaimSeven
namespace Go.Proofs.YthhohbidjhcjeaaGreatDoor
namespace Rows

/-- THE TIED CARD OF 'counterpanelaw08.PrimTells'. -/
def primTellsCard : Claim7 := { stood := { row := primTellsRow, standIns := [], harness := (true, "b2c3b2d2b50221d5631762a848752805bff427337fd1c8fab364110e20b5edb9"), looks := false }, kinds := [], alts := [], laidByText := true, laidKinds := [.data, .pinned], laidTests := true, laidLooks := .later }
def PrimTellsCardSaid : Prop := Claim7.holds Tryz.pinned (.plain (OpenSpec.ofChange primTellsSpec)) primTellsCard

/-- THE TIED CARD OF 'counterpanelaw08.PrimAll'. -/
def primAllCard : Claim7 := { stood := { row := primAllRow, standIns := [], harness := (true, "b2c3b2d2b50221d5631762a848752805bff427337fd1c8fab364110e20b5edb9"), looks := false }, kinds := [], alts := [], laidByText := true, laidKinds := [.data, .pinned], laidTests := true, laidLooks := .later }
def PrimAllCardSaid : Prop := Claim7.holds Tryz.pinned (.plain (OpenSpec.ofChange primAllSpec)) primAllCard

/-- THE TIED CARD OF 'counterpanelaw08.PrimTree'. -/
def primTreeCard : Claim7 := { stood := { row := primTreeRow, standIns := [], harness := (true, "b2c3b2d2b50221d5631762a848752805bff427337fd1c8fab364110e20b5edb9"), looks := false }, kinds := [], alts := [], laidByText := true, laidKinds := [.data, .pinned], laidTests := true, laidLooks := .later }
def PrimTreeCardSaid : Prop := Claim7.holds Tryz.pinned (.plain (OpenSpec.ofChange primTreeSpec)) primTreeCard

/-- THE TIED CARD OF 'counterpanelaw08.PrimCounts'. -/
def primCountsCard : Claim7 := { stood := { row := primCountsRow, standIns := [], harness := (true, "b2c3b2d2b50221d5631762a848752805bff427337fd1c8fab364110e20b5edb9"), looks := false }, kinds := [], alts := [], laidByText := true, laidKinds := [.data, .pinned], laidTests := true, laidLooks := .later }
def PrimCountsCardSaid : Prop := Claim7.holds Tryz.pinned (.plain (OpenSpec.ofChange primCountsSpec)) primCountsCard

/-- THE TIED CARD OF 'counterpanelaw08.PrimAdds'. -/
def primAddsCard : Claim7 := { stood := { row := primAddsRow, standIns := [], harness := (true, "b2c3b2d2b50221d5631762a848752805bff427337fd1c8fab364110e20b5edb9"), looks := false }, kinds := [], alts := [], laidByText := true, laidKinds := [.data, .pinned], laidTests := true, laidLooks := .later }
def PrimAddsCardSaid : Prop := Claim7.holds Tryz.pinned (.plain (OpenSpec.ofChange primAddsSpec)) primAddsCard

/-- THE TIED CARD OF 'counterpanelaw08.PrimLines'. -/
def primLinesCard : Claim7 := { stood := { row := primLinesRow, standIns := [], harness := (true, "b2c3b2d2b50221d5631762a848752805bff427337fd1c8fab364110e20b5edb9"), looks := false }, kinds := [], alts := [], laidByText := true, laidKinds := [.data, .pinned], laidTests := true, laidLooks := .later }
def PrimLinesCardSaid : Prop := Claim7.holds Tryz.pinned (.plain (OpenSpec.ofChange primLinesSpec)) primLinesCard

/-- THE TIED CARD OF 'counterpanelaw08.PrimMoves'. -/
def primMovesCard : Claim7 := { stood := { row := primMovesRow, standIns := [], harness := (true, "b2c3b2d2b50221d5631762a848752805bff427337fd1c8fab364110e20b5edb9"), looks := false }, kinds := [], alts := [], laidByText := true, laidKinds := [.data, .pinned], laidTests := true, laidLooks := .later }
def PrimMovesCardSaid : Prop := Claim7.holds Tryz.pinned (.plain (OpenSpec.ofChange primMovesSpec)) primMovesCard

/-- THE TIED CARD OF 'counterpanelaw09.InvertUndoes'. -/
def invertUndoesCard : Claim7 := { stood := { row := invertUndoesRow, standIns := [], harness := (true, "b2c3b2d2b50221d5631762a848752805bff427337fd1c8fab364110e20b5edb9"), looks := false }, kinds := [], alts := [], laidByText := true, laidKinds := [.data, .pinned], laidTests := true, laidLooks := .later }
def InvertUndoesCardSaid : Prop := Claim7.holds Tryz.pinned (.plain (OpenSpec.ofChange invertUndoesSpec)) invertUndoesCard

/-- THE TIED CARD OF 'counterpanelaw09.InvertAll'. -/
def invertAllCard : Claim7 := { stood := { row := invertAllRow, standIns := [], harness := (true, "b2c3b2d2b50221d5631762a848752805bff427337fd1c8fab364110e20b5edb9"), looks := false }, kinds := [], alts := [], laidByText := true, laidKinds := [.data, .pinned], laidTests := true, laidLooks := .later }
def InvertAllCardSaid : Prop := Claim7.holds Tryz.pinned (.plain (OpenSpec.ofChange invertAllSpec)) invertAllCard

/-- THE TIED CARD OF 'counterpanelaw10.CommuteTree'. -/
def commuteTreeCard : Claim7 := { stood := { row := commuteTreeRow, standIns := [], harness := (true, "b2c3b2d2b50221d5631762a848752805bff427337fd1c8fab364110e20b5edb9"), looks := false }, kinds := [], alts := [], laidByText := true, laidKinds := [.data, .pinned], laidTests := true, laidLooks := .later }
def CommuteTreeCardSaid : Prop := Claim7.holds Tryz.pinned (.plain (OpenSpec.ofChange commuteTreeSpec)) commuteTreeCard

/-- THE TIED CARD OF 'counterpanelaw10.CommutePast'. -/
def commutePastCard : Claim7 := { stood := { row := commutePastRow, standIns := [], harness := (true, "b2c3b2d2b50221d5631762a848752805bff427337fd1c8fab364110e20b5edb9"), looks := false }, kinds := [], alts := [], laidByText := true, laidKinds := [.data, .pinned], laidTests := true, laidLooks := .later }
def CommutePastCardSaid : Prop := Claim7.holds Tryz.pinned (.plain (OpenSpec.ofChange commutePastSpec)) commutePastCard

/-- THE TIED CARD OF 'counterpanelaw12.RecordSteps'. -/
def recordStepsCard : Claim7 := { stood := { row := recordStepsRow, standIns := [], harness := (true, "b2c3b2d2b50221d5631762a848752805bff427337fd1c8fab364110e20b5edb9"), looks := false }, kinds := [], alts := [], laidByText := true, laidKinds := [.data, .pinned], laidTests := true, laidLooks := .later }
def RecordStepsCardSaid : Prop := Claim7.holds Tryz.pinned (.plain (OpenSpec.ofChange recordStepsSpec)) recordStepsCard

/-- THE TIED CARD OF 'counterpanelaw12.RecordEmpty'. -/
def recordEmptyCard : Claim7 := { stood := { row := recordEmptyRow, standIns := [], harness := (true, "b2c3b2d2b50221d5631762a848752805bff427337fd1c8fab364110e20b5edb9"), looks := false }, kinds := [], alts := [], laidByText := true, laidKinds := [.data, .pinned], laidTests := true, laidLooks := .later }
def RecordEmptyCardSaid : Prop := Claim7.holds Tryz.pinned (.plain (OpenSpec.ofChange recordEmptySpec)) recordEmptyCard

/-- THE TIED CARD OF 'counterpanelaw11.SeqSwaps'. -/
def seqSwapsCard : Claim7 := { stood := { row := seqSwapsRow, standIns := [], harness := (true, "b2c3b2d2b50221d5631762a848752805bff427337fd1c8fab364110e20b5edb9"), looks := false }, kinds := [], alts := [], laidByText := true, laidKinds := [.data, .pinned], laidTests := true, laidLooks := .later }
def SeqSwapsCardSaid : Prop := Claim7.holds Tryz.pinned (.plain (OpenSpec.ofChange seqSwapsSpec)) seqSwapsCard

/-- THE TIED CARD OF 'counterpanelaw11.SeqLast'. -/
def seqLastCard : Claim7 := { stood := { row := seqLastRow, standIns := [], harness := (true, "b2c3b2d2b50221d5631762a848752805bff427337fd1c8fab364110e20b5edb9"), looks := false }, kinds := [], alts := [], laidByText := true, laidKinds := [.data, .pinned], laidTests := true, laidLooks := .later }
def SeqLastCardSaid : Prop := Claim7.holds Tryz.pinned (.plain (OpenSpec.ofChange seqLastSpec)) seqLastCard

/-- THE TIED CARD OF 'counterpanelaw11.SeqJoins'. -/
def seqJoinsCard : Claim7 := { stood := { row := seqJoinsRow, standIns := [], harness := (true, "b2c3b2d2b50221d5631762a848752805bff427337fd1c8fab364110e20b5edb9"), looks := false }, kinds := [], alts := [], laidByText := true, laidKinds := [.data, .pinned], laidTests := true, laidLooks := .later }
def SeqJoinsCardSaid : Prop := Claim7.holds Tryz.pinned (.plain (OpenSpec.ofChange seqJoinsSpec)) seqJoinsCard

/-- THE TIED CARD OF 'counterpanelaw12.RecordMakes'. -/
def recordMakesCard : Claim7 := { stood := { row := recordMakesRow, standIns := [], harness := (true, "b2c3b2d2b50221d5631762a848752805bff427337fd1c8fab364110e20b5edb9"), looks := false }, kinds := [], alts := [], laidByText := true, laidKinds := [.data, .pinned], laidTests := true, laidLooks := .later }
def RecordMakesCardSaid : Prop := Claim7.holds Tryz.pinned (.plain (OpenSpec.ofChange recordMakesSpec)) recordMakesCard

/-- THE SECOND FORM's CARD OF 'counterpanelaw08.PrimTells'. -/
def primTellsUptoCard : Claim7 := { stood := { row := primTellsUptoRow, standIns := [], harness := (true, "b2c3b2d2b50221d5631762a848752805bff427337fd1c8fab364110e20b5edb9"), looks := false }, kinds := [], alts := [], laidByText := true, laidKinds := [.data, .pinned], laidTests := true, laidLooks := .later }
def PrimTellsUptoCardSaid : Prop := Claim7.holds Tryz.pinned (.plain (OpenSpec.upto primTellsSpec)) primTellsUptoCard

/-- THE SECOND FORM's CARD OF 'counterpanelaw08.PrimAll'. -/
def primAllUptoCard : Claim7 := { stood := { row := primAllUptoRow, standIns := [], harness := (true, "b2c3b2d2b50221d5631762a848752805bff427337fd1c8fab364110e20b5edb9"), looks := false }, kinds := [], alts := [], laidByText := true, laidKinds := [.data, .pinned], laidTests := true, laidLooks := .later }
def PrimAllUptoCardSaid : Prop := Claim7.holds Tryz.pinned (.plain (OpenSpec.upto primAllSpec)) primAllUptoCard

/-- THE SECOND FORM's CARD OF 'counterpanelaw08.PrimTree'. -/
def primTreeUptoCard : Claim7 := { stood := { row := primTreeUptoRow, standIns := [], harness := (true, "b2c3b2d2b50221d5631762a848752805bff427337fd1c8fab364110e20b5edb9"), looks := false }, kinds := [], alts := [], laidByText := true, laidKinds := [.data, .pinned], laidTests := true, laidLooks := .later }
def PrimTreeUptoCardSaid : Prop := Claim7.holds Tryz.pinned (.plain (OpenSpec.upto primTreeSpec)) primTreeUptoCard

/-- THE SECOND FORM's CARD OF 'counterpanelaw08.PrimCounts'. -/
def primCountsUptoCard : Claim7 := { stood := { row := primCountsUptoRow, standIns := [], harness := (true, "b2c3b2d2b50221d5631762a848752805bff427337fd1c8fab364110e20b5edb9"), looks := false }, kinds := [], alts := [], laidByText := true, laidKinds := [.data, .pinned], laidTests := true, laidLooks := .later }
def PrimCountsUptoCardSaid : Prop := Claim7.holds Tryz.pinned (.plain (OpenSpec.upto primCountsSpec)) primCountsUptoCard

/-- THE SECOND FORM's CARD OF 'counterpanelaw08.PrimAdds'. -/
def primAddsUptoCard : Claim7 := { stood := { row := primAddsUptoRow, standIns := [], harness := (true, "b2c3b2d2b50221d5631762a848752805bff427337fd1c8fab364110e20b5edb9"), looks := false }, kinds := [], alts := [], laidByText := true, laidKinds := [.data, .pinned], laidTests := true, laidLooks := .later }
def PrimAddsUptoCardSaid : Prop := Claim7.holds Tryz.pinned (.plain (OpenSpec.upto primAddsSpec)) primAddsUptoCard

/-- THE SECOND FORM's CARD OF 'counterpanelaw08.PrimLines'. -/
def primLinesUptoCard : Claim7 := { stood := { row := primLinesUptoRow, standIns := [], harness := (true, "b2c3b2d2b50221d5631762a848752805bff427337fd1c8fab364110e20b5edb9"), looks := false }, kinds := [], alts := [], laidByText := true, laidKinds := [.data, .pinned], laidTests := true, laidLooks := .later }
def PrimLinesUptoCardSaid : Prop := Claim7.holds Tryz.pinned (.plain (OpenSpec.upto primLinesSpec)) primLinesUptoCard

/-- THE SECOND FORM's CARD OF 'counterpanelaw08.PrimMoves'. -/
def primMovesUptoCard : Claim7 := { stood := { row := primMovesUptoRow, standIns := [], harness := (true, "b2c3b2d2b50221d5631762a848752805bff427337fd1c8fab364110e20b5edb9"), looks := false }, kinds := [], alts := [], laidByText := true, laidKinds := [.data, .pinned], laidTests := true, laidLooks := .later }
def PrimMovesUptoCardSaid : Prop := Claim7.holds Tryz.pinned (.plain (OpenSpec.upto primMovesSpec)) primMovesUptoCard

/-- THE SECOND FORM's CARD OF 'counterpanelaw09.InvertUndoes'. -/
def invertUndoesUptoCard : Claim7 := { stood := { row := invertUndoesUptoRow, standIns := [], harness := (true, "b2c3b2d2b50221d5631762a848752805bff427337fd1c8fab364110e20b5edb9"), looks := false }, kinds := [], alts := [], laidByText := true, laidKinds := [.data, .pinned], laidTests := true, laidLooks := .later }
def InvertUndoesUptoCardSaid : Prop := Claim7.holds Tryz.pinned (.plain (OpenSpec.upto invertUndoesSpec)) invertUndoesUptoCard

/-- THE SECOND FORM's CARD OF 'counterpanelaw09.InvertAll'. -/
def invertAllUptoCard : Claim7 := { stood := { row := invertAllUptoRow, standIns := [], harness := (true, "b2c3b2d2b50221d5631762a848752805bff427337fd1c8fab364110e20b5edb9"), looks := false }, kinds := [], alts := [], laidByText := true, laidKinds := [.data, .pinned], laidTests := true, laidLooks := .later }
def InvertAllUptoCardSaid : Prop := Claim7.holds Tryz.pinned (.plain (OpenSpec.upto invertAllSpec)) invertAllUptoCard

/-- THE SECOND FORM's CARD OF 'counterpanelaw10.CommuteTree'. -/
def commuteTreeUptoCard : Claim7 := { stood := { row := commuteTreeUptoRow, standIns := [], harness := (true, "b2c3b2d2b50221d5631762a848752805bff427337fd1c8fab364110e20b5edb9"), looks := false }, kinds := [], alts := [], laidByText := true, laidKinds := [.data, .pinned], laidTests := true, laidLooks := .later }
def CommuteTreeUptoCardSaid : Prop := Claim7.holds Tryz.pinned (.plain (OpenSpec.upto commuteTreeSpec)) commuteTreeUptoCard

/-- THE SECOND FORM's CARD OF 'counterpanelaw10.CommutePast'. -/
def commutePastUptoCard : Claim7 := { stood := { row := commutePastUptoRow, standIns := [], harness := (true, "b2c3b2d2b50221d5631762a848752805bff427337fd1c8fab364110e20b5edb9"), looks := false }, kinds := [], alts := [], laidByText := true, laidKinds := [.data, .pinned], laidTests := true, laidLooks := .later }
def CommutePastUptoCardSaid : Prop := Claim7.holds Tryz.pinned (.plain (OpenSpec.upto commutePastSpec)) commutePastUptoCard

/-- THE SECOND FORM's CARD OF 'counterpanelaw12.RecordSteps'. -/
def recordStepsUptoCard : Claim7 := { stood := { row := recordStepsUptoRow, standIns := [], harness := (true, "b2c3b2d2b50221d5631762a848752805bff427337fd1c8fab364110e20b5edb9"), looks := false }, kinds := [], alts := [], laidByText := true, laidKinds := [.data, .pinned], laidTests := true, laidLooks := .later }
def RecordStepsUptoCardSaid : Prop := Claim7.holds Tryz.pinned (.plain (OpenSpec.upto recordStepsSpec)) recordStepsUptoCard

/-- THE SECOND FORM's CARD OF 'counterpanelaw12.RecordEmpty'. -/
def recordEmptyUptoCard : Claim7 := { stood := { row := recordEmptyUptoRow, standIns := [], harness := (true, "b2c3b2d2b50221d5631762a848752805bff427337fd1c8fab364110e20b5edb9"), looks := false }, kinds := [], alts := [], laidByText := true, laidKinds := [.data, .pinned], laidTests := true, laidLooks := .later }
def RecordEmptyUptoCardSaid : Prop := Claim7.holds Tryz.pinned (.plain (OpenSpec.upto recordEmptySpec)) recordEmptyUptoCard

/-- THE SECOND FORM's CARD OF 'counterpanelaw11.SeqSwaps'. -/
def seqSwapsUptoCard : Claim7 := { stood := { row := seqSwapsUptoRow, standIns := [], harness := (true, "b2c3b2d2b50221d5631762a848752805bff427337fd1c8fab364110e20b5edb9"), looks := false }, kinds := [], alts := [], laidByText := true, laidKinds := [.data, .pinned], laidTests := true, laidLooks := .later }
def SeqSwapsUptoCardSaid : Prop := Claim7.holds Tryz.pinned (.plain (OpenSpec.upto seqSwapsSpec)) seqSwapsUptoCard

/-- THE SECOND FORM's CARD OF 'counterpanelaw11.SeqLast'. -/
def seqLastUptoCard : Claim7 := { stood := { row := seqLastUptoRow, standIns := [], harness := (true, "b2c3b2d2b50221d5631762a848752805bff427337fd1c8fab364110e20b5edb9"), looks := false }, kinds := [], alts := [], laidByText := true, laidKinds := [.data, .pinned], laidTests := true, laidLooks := .later }
def SeqLastUptoCardSaid : Prop := Claim7.holds Tryz.pinned (.plain (OpenSpec.upto seqLastSpec)) seqLastUptoCard

/-- THE SECOND FORM's CARD OF 'counterpanelaw11.SeqJoins'. -/
def seqJoinsUptoCard : Claim7 := { stood := { row := seqJoinsUptoRow, standIns := [], harness := (true, "b2c3b2d2b50221d5631762a848752805bff427337fd1c8fab364110e20b5edb9"), looks := false }, kinds := [], alts := [], laidByText := true, laidKinds := [.data, .pinned], laidTests := true, laidLooks := .later }
def SeqJoinsUptoCardSaid : Prop := Claim7.holds Tryz.pinned (.plain (OpenSpec.upto seqJoinsSpec)) seqJoinsUptoCard

/-- THE SECOND FORM's CARD OF 'counterpanelaw12.RecordMakes'. -/
def recordMakesUptoCard : Claim7 := { stood := { row := recordMakesUptoRow, standIns := [], harness := (true, "b2c3b2d2b50221d5631762a848752805bff427337fd1c8fab364110e20b5edb9"), looks := false }, kinds := [], alts := [], laidByText := true, laidKinds := [.data, .pinned], laidTests := true, laidLooks := .later }
def RecordMakesUptoCardSaid : Prop := Claim7.holds Tryz.pinned (.plain (OpenSpec.upto recordMakesSpec)) recordMakesUptoCard
end Rows
end Go.Proofs.YthhohbidjhcjeaaGreatDoor
