/- How the arguments of this seat's laws open, and what its rows list. -/
import Derived.Test.YthhohbidjhcjeaaDoorRows
import Derived.Test.YthhohbidjhcjeaaDoorOp
import Derived.Test.YthhohbidjhcjeaaDoorPp
namespace Go.Proofs.YthhohbidjhcjeaaDoor.Od
open Go.ChangeShapes Go.WideShapes Go.ChangeAt Go.RowKit Go.Proofs.YthhohbidjhcjeaaDoorW.PrintWords Go.Proofs.YthhohbidjhcjeaaDoorW.PrintMore Go.Proofs.YthhohbidjhcjeaaDoor.Q Go.Proofs.YthhohbidjhcjeaaDoor.Op Go.Proofs.YthhohbidjhcjeaaDoor.Pl
theorem own : ownKnob Tryd.prog.godebug = none := by kernel_rfl
theorem laidOut : laidOutB Tryd.prog = true := by kernel_rfl
/-- What each row of this seat lists. -/
def laidTabs : List (String × DataW Unit) := [("unicode/utf8.acceptRanges", Rows.laid_unicode_utf8_acceptRanges), ("unicode/utf8.first", Rows.laid_unicode_utf8_first)]
theorem o9 : Opens Tryd.prog 9 Kd.string (fun s => s.size ≤ 140737488351232) := opens_string (P := Tryd.prog) (by kernel_rfl)
theorem o3 : Opens Tryd.prog 3 (Kd.int .i64) (fun n => (Lit.int .i64 n).wf = true) := opens_int (P := Tryd.prog) (by kernel_rfl)
theorem o40 : Opens Tryd.prog 40 (Kd.int .u16) (fun n => (Lit.int .u16 n).wf = true) := opens_int (P := Tryd.prog) (by kernel_rfl)
theorem o22 : Opens Tryd.prog 22 (Kd.slice 9 Kd.string) (fun xs => xs.length ≤ maxLen ∧ xs.length * 16 ≤ 140737488351232 ∧ ∀ x ∈ xs, x.size ≤ 140737488351232) := opens_slice (P := Tryd.prog) 16 (by kernel_rfl) o9 (by kernel_rfl) (by kernel_rfl)
theorem o24 : Opens Tryd.prog 24 k24 Okp := by
  refine opens_imp (opens_iso (fun x : S24 => (x.f0, x.f1, x.f2, x.f3, x.f4, x.f5, x.f6)) (fun x => ⟨x.1, x.2.1, x.2.2.1, x.2.2.2.1, x.2.2.2.2.1, x.2.2.2.2.2.1, x.2.2.2.2.2.2⟩) (fun _ => rfl) (opens_struct (P := Tryd.prog) Tryd.underlying24 (by kernel_rfl)
    (opensAt_cons o3 rfl (by kernel_rfl) (opensAt_cons o9 rfl (by kernel_rfl) (opensAt_cons o9 rfl (by kernel_rfl) (opensAt_cons o9 rfl (by kernel_rfl) (opensAt_cons o3 rfl (by kernel_rfl) (opensAt_cons o22 rfl (by kernel_rfl) (opensAt_one o22 rfl (by kernel_rfl)))))))))) ?_
  rintro a ⟨_, h1, h2, h3, _, ⟨_, h5, _⟩, ⟨_, h6, _⟩⟩
  dsimp only at h1 h2 h3 h5 h6
  exact ⟨⟨by omega, by omega⟩, by omega, by omega, by omega⟩
theorem o25 : Opens Tryd.prog 25 (Kd.slice 24 k24) (fun xs => xs.length ≤ maxLen ∧ xs.length * 112 ≤ 140737488351232 ∧ ∀ x ∈ xs, Okp x) := opens_slice (P := Tryd.prog) 112 (by kernel_rfl) o24 (by kernel_rfl) (by kernel_rfl)
end Go.Proofs.YthhohbidjhcjeaaDoor.Od
