/- Contracts of path.part and path.Right. -/
import Derived.Test.YthhohbidjhcjeaaDoorSa
namespace Go.Proofs.YthhohbidjhcjeaaDoor.H
open Go.RowKit Go.Lib Go.Shelf

/-- Is a text one part of a path? -/
def strangeB (s : ByteArray) : Bool := decide (0 ≤ Lib.idxFunc (fun r => !isLetter r) true s)
def partB (s : ByteArray) : Bool := if s.toList = [] then false else if s.size ≤ 16 then (if s.toList = [46] then false else if s.toList = [46, 46] then false else !strangeB s) else false
set_option maxHeartbeats 2000000 in
set_option maxRecDepth 1000000 in
theorem part_calls (s : ByteArray) (w : World) : Calls Tryd.prog 77 #[.string s] w fun e w' => e = .returned (.bool (partB s)) ∧ Below w.heap.size w w' := by
  have hC := Tryd.strings_ContainsFunc_grows 101 #[] (enters_of Tryd.func101 (by kernel_rfl) rfl) _ s w (strange_grows w)
  have e0 : decide (0 ≤ Lib.idxFunc (fun r => !isLetter r) true s) = strangeB s := rfl
  rw [e0] at hC
  obtain ⟨b, hb⟩ : ∃ b, strangeB s = b := ⟨_, rfl⟩
  unfold partB
  rw [hb] at hC ⊢
  clear e0 hb
  have hsz : ((s.size : Int) ≤ 16) ↔ s.size ≤ 16 := by omega
  go_enter Tryd.func77, Tryd.ntmps77
  go_wp2_with (go_at_call 100; refine hC.mono ?_; rintro e w' ⟨rfl, hb⟩)
  all_goals go_ret
  all_goals refine ⟨?_, hb⟩
  all_goals simp_all
end Go.Proofs.YthhohbidjhcjeaaDoor.H
