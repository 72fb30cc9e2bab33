/- The contracts of path.Right and lines.Right, in the form that printed callers ask. -/
import Derived.Test.YthhohbidjhcjeaaDoorSd
import Derived.Test.YthhohbidjhcjeaaDoorWMore
namespace Go.Proofs.YthhohbidjhcjeaaDoor.H
open Go.RowKit Go.Shelf Go.Proofs.YthhohbidjhcjeaaDoorW.PrintWords Go.Proofs.YthhohbidjhcjeaaDoorW.PrintLast Go.Proofs.YthhohbidjhcjeaaDoorW.PrintMore

/-- Does a text hold the end of a line? -/
def hasNL (s : ByteArray) : Bool := decide (0 ≤ Lib.indexByte s.data.toList 10)
def linesB (l : List ByteArray) : Bool := !(l.any hasNL)
theorem lit_calls (s : ByteArray) (w : World) : Calls Tryd.prog 81 #[.string s] w fun e w' => e = .returned (.bool (hasNL s)) ∧ w' = w := by
  have hC := Tryd.strings_Contains_one s 10 w
  have e0 : decide (0 ≤ Lib.indexByte s.data.toList 10) = hasNL s := rfl
  rw [e0] at hC
  obtain ⟨b, hb⟩ : ∃ b, hasNL s = b := ⟨_, rfl⟩
  rw [hb] at hC ⊢
  clear e0 hb
  go_enter Tryd.func81, Tryd.ntmps81
  go_wp2_with (go_at_call 82; refine hC.mono ?_; rintro e w' ⟨rfl, rfl⟩)
  go_ret
  exact ⟨rfl, rfl⟩
set_option maxHeartbeats 1000000 in
theorem index_calls (A : Option Addr) (c : Nat) (l : List ByteArray) (w : World) (h : Kd.C Kd.string w A l.length l) :
    Calls Tryd.prog 104 #[.slice A l.length c, .func (.func 81) #[] #[]] w fun e w' => (∃ i : Int, e = .returned (.int .i64 i) ∧ decide (0 ≤ i) = l.any hasNL) ∧ w' = w := by
  have hmax := Kd.C_max h
  have e81 : ∀ args w, (callFunc 81 args).run Tryd.prog w = .ok (.enter 81 args) w := enters_of Tryd.func81 (by kernel_rfl) rfl
  go_enter Tryd.func104, Tryd.ntmps104
  go_wp2
  go_loopg [8] l.length (fun gf v8 wx => ∃ j : Nat, v8 = .int .i64 (j : Int) ∧ wx = w ∧ j + gf = l.length ∧ (l.take j).any hasNL = false)
  case atStart => exact ⟨0, rfl, rfl, by omega, by simp⟩
  case round =>
    obtain ⟨j, rfl, rfl, hj, hn⟩ := hrel
    by_cases hlt : j < l.length
    · obtain ⟨g', rfl⟩ : ∃ g', gk = g' + 1 := ⟨gk - 1, by omega⟩
      obtain ⟨ad, rfl, hc⟩ := Kd.at_string h (j : Int) (by omega) (by omega)
      rw [Int.toNat_natCast] at hc
      have hx : rdOf ByteArray.empty l (j : Int) = l[j] := by
        rw [rdOf, Int.toNat_natCast, List.getD_eq_getElem?_getD, List.getElem?_eq_getElem hlt, Option.getD_some]
      rw [hx] at hc
      have ht : (l.take (j + 1)).any hasNL = hasNL l[j] := by
        rw [List.take_succ_eq_append_getElem hlt, List.any_append, hn]
        simp
      obtain ⟨x, hxx⟩ : ∃ x, l[j] = x := ⟨_, rfl⟩
      rw [hxx] at hc ht
      have hL := lit_calls x
      cases hb : hasNL x with
      | true =>
        rw [hb] at hL
        go_wp2_with (go_at_fn 81; refine (hL _).mono ?_; rintro e w' ⟨rfl, hw⟩; rw [hw])
        go_ret
        refine ⟨⟨_, rfl, ?_⟩, rfl⟩
        have : l.any hasNL = true := List.any_eq_true.2 ⟨l[j], List.getElem_mem hlt, by rw [hxx, hb]⟩
        rw [this]
        exact decide_eq_true (by omega)
      | false =>
        rw [hb] at hL
        go_wp2_with (go_at_fn 81; refine (hL _).mono ?_; rintro e w' ⟨rfl, hw⟩; rw [hw])
        go_roundg g'
        case measure => omega
        case rel => exact ⟨j + 1, rfl, rfl, by omega, by rw [ht, hb]⟩
    · have hjl : j = l.length := by omega
      subst hjl
      go_wp2
      go_ret
      refine ⟨⟨_, rfl, ?_⟩, rfl⟩
      rw [List.take_length] at hn
      rw [hn]
      rfl
theorem lines_calls (A : Option Addr) (c : Nat) (l : List ByteArray) (w : World) (h : Kd.C Kd.string w A l.length l) :
    Calls Tryd.prog 49 #[.slice A l.length c] w fun e w' => e = .returned (.bool (linesB l)) ∧ w' = w := by
  have hC : Calls Tryd.prog 80 #[.slice A l.length c, .func (.func 81) #[] #[]] w fun e w' => e = .returned (.bool (l.any hasNL)) ∧ w' = w := by
    have hI := index_calls A c l w h
    obtain ⟨b, hb⟩ : ∃ b, l.any hasNL = b := ⟨_, rfl⟩
    rw [hb] at hI ⊢
    clear h hb
    go_enter Tryd.func80, Tryd.ntmps80
    go_wp2_with (go_at_call 104; refine hI.mono ?_; rintro e w' ⟨⟨i, rfl, hi⟩, rfl⟩)
    all_goals go_ret
    all_goals exact ⟨by simp_all, rfl⟩
  unfold linesB
  obtain ⟨b, hb⟩ : ∃ b, l.any hasNL = b := ⟨_, rfl⟩
  rw [hb] at hC ⊢
  clear h hb
  go_enter Tryd.func49, Tryd.ntmps49
  go_wp2_with (go_at_call 80; refine hC.mono ?_; rintro e w' ⟨rfl, rfl⟩)
  go_ret
  exact ⟨rfl, rfl⟩
end Go.Proofs.YthhohbidjhcjeaaDoor.H
namespace Go.Proofs.YthhohbidjhcjeaaDoor.Q
open Go.RowKit Go.Proofs.YthhohbidjhcjeaaDoorW.PrintWords Go.Proofs.YthhohbidjhcjeaaDoorW.PrintLast Go.Proofs.YthhohbidjhcjeaaDoorW.PrintMore Go.Proofs.YthhohbidjhcjeaaDoor.H
/-! ### in the printed form -/
def path_Right.f (a0 : ByteArray) : Option Bool := if a0.size ≤ 140737488355328 then some (rightB a0) else none
theorem path_Right.calls (a0 : ByteArray) (r : Bool) (w : World) (h : path_Right.f a0 = some r) : Calls Tryd.prog 46 #[.string a0] w fun e w' => e = .returned (.bool r) ∧ Below w.heap.size w w' := by
  unfold path_Right.f at h
  split at h
  · rename_i hl
    obtain rfl := Option.some.inj h
    exact callsIn_wide.1 (right_in a0 w hl)
  · cases h
def lines_Right.f (l0 : List ByteArray) : Option Bool := some (linesB l0)
theorem lines_Right.calls (A0 : Option Addr) (c0 : Nat) (l0 : List ByteArray) (r : Bool) (w : World) (hr0 : Kd.C Kd.string w A0 l0.length l0) (_hc0 : l0.length ≤ c0) (h : lines_Right.f l0 = some r) :
    Calls Tryd.prog 49 #[.slice A0 l0.length c0] w fun e w' => e = .returned (.bool r) ∧ Drawn0 w w' := by
  obtain rfl := Option.some.inj h
  refine (lines_calls A0 c0 l0 w hr0).mono ?_
  rintro e w' ⟨rfl, rfl⟩
  exact ⟨rfl, Drawn0.refl _⟩
end Go.Proofs.YthhohbidjhcjeaaDoor.Q
