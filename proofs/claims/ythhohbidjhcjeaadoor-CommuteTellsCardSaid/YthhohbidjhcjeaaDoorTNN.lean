/- Rows of the call's own whose elements lead to elder blocks alone: what is kept of them, and how they grow. -/
import Derived.Test.YthhohbidjhcjeaaDoorWNEv
import Derived.Test.YthhohbidjhcjeaaDoorWMore
import Derived.Maps.OwnIn
namespace Go.Proofs.YthhohbidjhcjeaaDoorW.PrintWords
open Go.RowKit
namespace Kd
section
variable {α : Type} {d : Kd α} {e base : Nat} {B : Nat → Prop} {w w1 W : World} {v v1 : Value} {xs : List α}
/-- A row of the call's own; what its elements lead to lies in B. -/
def NN {α : Type} (d : Kd α) (e : Nat) (w : World) (base : Nat) (B : Nat → Prop) (v : Value) (xs : List α) : Prop:=OwnRow (fun x c => FK d w B x c) e d.sz w base v xs
theorem NN_base (h : NN d e w base B v xs) : ∀ k,v.ownBlock = some k → base ≤ k:=by
 obtain ⟨inner,ho,_⟩:=h
 exact own_base ho
theorem NN_N (h : NN d e w base B v xs) (hB : ∀ k,B k → k < base) : N d e w base (fun k => B k ∨ base ≤ k) v xs:=by
 have hb:=NN_base h
 obtain ⟨inner,ho,hr⟩:=h
 refine ⟨fun k hk => .inr (hb k hk),chunks d.sz xs.length inner,chunks_length _ _ _,⟨fun k hk => hk.symm,inner,by rw [chunks_length]; exact ho,reps_raw hr (fun x c hp => (FK_raw hp).2)⟩,fun j x c hx hc => ?_⟩
 rw [chunks_get hc]
 exact FK_mono (hr.2 j x hx) (fun k hk => ⟨.inl hk,fun e => by have:=hb k e.symm; have:=hB k hk; omega⟩)
end
end Kd
end Go.Proofs.YthhohbidjhcjeaaDoorW.PrintWords
namespace Go
end Go
