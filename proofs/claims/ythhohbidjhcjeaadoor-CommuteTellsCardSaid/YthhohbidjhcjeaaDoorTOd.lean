/- How the arguments of this seat's laws open, and what its rows list. -/
import Derived.Test.YthhohbidjhcjeaaDoorRows
import Derived.Test.YthhohbidjhcjeaaDoorTOp
import Derived.Test.YthhohbidjhcjeaaDoorTPp
namespace Go.Proofs.YthhohbidjhcjeaaDoor.Od
open Go.ChangeShapes Go.WideShapes Go.ChangeAt Go.RowKit Go.Proofs.YthhohbidjhcjeaaDoorW.PrintWords Go.Proofs.YthhohbidjhcjeaaDoorW.PrintMore Go.Proofs.YthhohbidjhcjeaaDoor.Q Go.Proofs.YthhohbidjhcjeaaDoor.Op Go.Proofs.YthhohbidjhcjeaaDoor.Pl
theorem own : ownKnob Tryd.prog.godebug = none:=by kernel_rfl
theorem laidOut : laidOutB Tryd.prog = true:=by kernel_rfl
/-- What each row of this seat lists. -/
def laidTabs : List (String × DataW Unit) := [("unicode/utf8.acceptRanges", Rows.laid_unicode_utf8_acceptRanges), ("unicode/utf8.first", Rows.laid_unicode_utf8_first)]
theorem o9 : Opens Tryd.prog 9 Kd.string (fun s => s.size ≤ 140737488351232):=opens_string (P:=Tryd.prog) (by kernel_rfl)
theorem o3 : Opens Tryd.prog 3 (Kd.int .i64) (fun n => (Lit.int .i64 n).wf = true):=opens_int (P:=Tryd.prog) (by kernel_rfl)
theorem o22 : Opens Tryd.prog 22 (Kd.slice 9 Kd.string) (fun xs => xs.length ≤ maxLen ∧ xs.length * 16 ≤ 140737488351232 ∧ ∀ x ∈ xs,x.size ≤ 140737488351232):=opens_slice (P:=Tryd.prog) 16 (by kernel_rfl) o9 (by kernel_rfl) (by kernel_rfl)
end Go.Proofs.YthhohbidjhcjeaaDoor.Od
