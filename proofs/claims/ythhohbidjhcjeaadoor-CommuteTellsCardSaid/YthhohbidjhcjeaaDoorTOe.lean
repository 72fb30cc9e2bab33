/- Patches open with the bounds of their lines, too. -/
import Derived.Test.YthhohbidjhcjeaaDoorTOd
namespace Go.Proofs.YthhohbidjhcjeaaDoor.Od
open Go.ChangeShapes Go.WideShapes Go.ChangeAt Go.RowKit Go.Proofs.YthhohbidjhcjeaaDoorW.PrintWords Go.Proofs.YthhohbidjhcjeaaDoorW.PrintMore Go.Proofs.YthhohbidjhcjeaaDoor.Q Go.Proofs.YthhohbidjhcjeaaDoor.Op Go.Proofs.YthhohbidjhcjeaaDoor.Pl
theorem oq24 : Opens Tryd.prog 24 k24 Okq:=by
 refine opens_imp (opens_iso (fun x : S24 => (x.f0,x.f1,x.f2,x.f3,x.f4,x.f5,x.f6)) (fun x => ⟨x.1,x.2.1,x.2.2.1,x.2.2.2.1,x.2.2.2.2.1,x.2.2.2.2.2.1,x.2.2.2.2.2.2⟩) (fun _ => rfl) (opens_struct (P:=Tryd.prog) Tryd.underlying24 (by kernel_rfl)
  (opensAt_cons o3 rfl (by kernel_rfl) (opensAt_cons o9 rfl (by kernel_rfl) (opensAt_cons o9 rfl (by kernel_rfl) (opensAt_cons o9 rfl (by kernel_rfl) (opensAt_cons o3 rfl (by kernel_rfl) (opensAt_cons o22 rfl (by kernel_rfl) (opensAt_one o22 rfl (by kernel_rfl)))))))))) ?_
 rintro a ⟨_,h1,h2,h3,_,⟨_,h5,k5⟩,⟨_,h6,k6⟩⟩
 dsimp only at h1 h2 h3 h5 h6 k5 k6
 exact ⟨⟨⟨by omega,by omega⟩,by omega,by omega,by omega⟩,(fun s hs => Nat.le_trans (k5 s hs) (by decide)),(fun s hs => Nat.le_trans (k6 s hs) (by decide))⟩
theorem oq25 : Opens Tryd.prog 25 (Kd.slice 24 k24) (fun xs => xs.length ≤ maxLen ∧ xs.length * 112 ≤ 140737488351232 ∧ ∀ x ∈ xs,Okq x):=opens_slice (P:=Tryd.prog) 112 (by kernel_rfl) oq24 (by kernel_rfl) (by kernel_rfl)
end Go.Proofs.YthhohbidjhcjeaaDoor.Od
