/- The contract of counterpaneref09.Invert: it answers as invert.Invert does. -/
import Derived.Test.YthhohbidjhcjeaaDoorHa
namespace Go.Proofs.YthhohbidjhcjeaaDoor.H
open Go.RowKit Go.Proofs.YthhohbidjhcjeaaDoorW.PrintWords Go.Proofs.YthhohbidjhcjeaaDoorW.PrintLast Go.Proofs.YthhohbidjhcjeaaDoorW.PrintMore
open Go.Proofs.YthhohbidjhcjeaaDoor.Q

set_option maxRecDepth 100000 in
set_option maxHeartbeats 2000000 in
theorem rinv1 (a1 a2 a3 : ByteArray) (a4 : Int) (A5 : Option Addr) (n5 c5 : Nat) (A6 : Option Addr) (n6 c6 : Nat) (w : World) :
    Calls Tryd.prog 29 #[.agg #[.int .i64 1, .string a1, .string a2, .string a3, .int .i64 a4, .slice A5 n5 c5, .slice A6 n6 c6]] w fun e w' => e = .returned (.agg #[.int .i64 2, .string a1, .string a2, .string a3, .int .i64 a4, .slice A5 n5 c5, .slice A6 n6 c6]) ∧ Below w.heap.size w w' := by
  go_enter Tryd.func29, Tryd.ntmps29
  go_wp2
  all_goals (try (go_region; all_goals go_wp2))
  all_goals
    refine bodyPost_ret (v := .agg #[.int .i64 2, .string a1, .string a2, .string a3, .int .i64 a4, .slice A5 n5 c5, .slice A6 n6 c6]) (by simp [results, Tryd.results29, go_sem]) rfl ⟨rfl, ?_⟩
    repeat (first | exact Below.refl _ _ | refine Below.setCell ?_ (by simp <;> omega) _ | refine Below.alloc ?_ (by simp <;> omega) _ | refine Below.drew ?_)

set_option maxRecDepth 100000 in
set_option maxHeartbeats 2000000 in
theorem rinv2 (a1 a2 a3 : ByteArray) (a4 : Int) (A5 : Option Addr) (n5 c5 : Nat) (A6 : Option Addr) (n6 c6 : Nat) (w : World) :
    Calls Tryd.prog 29 #[.agg #[.int .i64 2, .string a1, .string a2, .string a3, .int .i64 a4, .slice A5 n5 c5, .slice A6 n6 c6]] w fun e w' => e = .returned (.agg #[.int .i64 1, .string a1, .string a2, .string a3, .int .i64 a4, .slice A5 n5 c5, .slice A6 n6 c6]) ∧ Below w.heap.size w w' := by
  go_enter Tryd.func29, Tryd.ntmps29
  go_wp2
  all_goals (try (go_region; all_goals go_wp2))
  all_goals
    refine bodyPost_ret (v := .agg #[.int .i64 1, .string a1, .string a2, .string a3, .int .i64 a4, .slice A5 n5 c5, .slice A6 n6 c6]) (by simp [results, Tryd.results29, go_sem]) rfl ⟨rfl, ?_⟩
    repeat (first | exact Below.refl _ _ | refine Below.setCell ?_ (by simp <;> omega) _ | refine Below.alloc ?_ (by simp <;> omega) _ | refine Below.drew ?_)

set_option maxRecDepth 100000 in
set_option maxHeartbeats 2000000 in
theorem rinv3 (a1 a2 a3 : ByteArray) (a4 : Int) (A5 : Option Addr) (n5 c5 : Nat) (A6 : Option Addr) (n6 c6 : Nat) (w : World) :
    Calls Tryd.prog 29 #[.agg #[.int .i64 3, .string a1, .string a2, .string a3, .int .i64 a4, .slice A5 n5 c5, .slice A6 n6 c6]] w fun e w' => e = .returned (.agg #[.int .i64 4, .string a1, .string a2, .string a3, .int .i64 a4, .slice A5 n5 c5, .slice A6 n6 c6]) ∧ Below w.heap.size w w' := by
  go_enter Tryd.func29, Tryd.ntmps29
  go_wp2
  all_goals (try (go_region; all_goals go_wp2))
  all_goals
    refine bodyPost_ret (v := .agg #[.int .i64 4, .string a1, .string a2, .string a3, .int .i64 a4, .slice A5 n5 c5, .slice A6 n6 c6]) (by simp [results, Tryd.results29, go_sem]) rfl ⟨rfl, ?_⟩
    repeat (first | exact Below.refl _ _ | refine Below.setCell ?_ (by simp <;> omega) _ | refine Below.alloc ?_ (by simp <;> omega) _ | refine Below.drew ?_)

set_option maxRecDepth 100000 in
set_option maxHeartbeats 2000000 in
theorem rinv4 (a1 a2 a3 : ByteArray) (a4 : Int) (A5 : Option Addr) (n5 c5 : Nat) (A6 : Option Addr) (n6 c6 : Nat) (w : World) :
    Calls Tryd.prog 29 #[.agg #[.int .i64 4, .string a1, .string a2, .string a3, .int .i64 a4, .slice A5 n5 c5, .slice A6 n6 c6]] w fun e w' => e = .returned (.agg #[.int .i64 3, .string a1, .string a2, .string a3, .int .i64 a4, .slice A5 n5 c5, .slice A6 n6 c6]) ∧ Below w.heap.size w w' := by
  go_enter Tryd.func29, Tryd.ntmps29
  go_wp2
  all_goals (try (go_region; all_goals go_wp2))
  all_goals
    refine bodyPost_ret (v := .agg #[.int .i64 3, .string a1, .string a2, .string a3, .int .i64 a4, .slice A5 n5 c5, .slice A6 n6 c6]) (by simp [results, Tryd.results29, go_sem]) rfl ⟨rfl, ?_⟩
    repeat (first | exact Below.refl _ _ | refine Below.setCell ?_ (by simp <;> omega) _ | refine Below.alloc ?_ (by simp <;> omega) _ | refine Below.drew ?_)

set_option maxRecDepth 100000 in
set_option maxHeartbeats 2000000 in
theorem rinv5 (a1 a2 a3 : ByteArray) (a4 : Int) (A5 : Option Addr) (n5 c5 : Nat) (A6 : Option Addr) (n6 c6 : Nat) (w : World) :
    Calls Tryd.prog 29 #[.agg #[.int .i64 5, .string a1, .string a2, .string a3, .int .i64 a4, .slice A5 n5 c5, .slice A6 n6 c6]] w fun e w' => e = .returned (.agg #[.int .i64 6, .string a1, .string a2, .string a3, .int .i64 a4, .slice A5 n5 c5, .slice A6 n6 c6]) ∧ Below w.heap.size w w' := by
  go_enter Tryd.func29, Tryd.ntmps29
  go_wp2
  all_goals (try (go_region; all_goals go_wp2))
  all_goals
    refine bodyPost_ret (v := .agg #[.int .i64 6, .string a1, .string a2, .string a3, .int .i64 a4, .slice A5 n5 c5, .slice A6 n6 c6]) (by simp [results, Tryd.results29, go_sem]) rfl ⟨rfl, ?_⟩
    repeat (first | exact Below.refl _ _ | refine Below.setCell ?_ (by simp <;> omega) _ | refine Below.alloc ?_ (by simp <;> omega) _ | refine Below.drew ?_)

set_option maxRecDepth 100000 in
set_option maxHeartbeats 2000000 in
theorem rinv6 (a1 a2 a3 : ByteArray) (a4 : Int) (A5 : Option Addr) (n5 c5 : Nat) (A6 : Option Addr) (n6 c6 : Nat) (w : World) :
    Calls Tryd.prog 29 #[.agg #[.int .i64 6, .string a1, .string a2, .string a3, .int .i64 a4, .slice A5 n5 c5, .slice A6 n6 c6]] w fun e w' => e = .returned (.agg #[.int .i64 5, .string a1, .string a2, .string a3, .int .i64 a4, .slice A5 n5 c5, .slice A6 n6 c6]) ∧ Below w.heap.size w w' := by
  go_enter Tryd.func29, Tryd.ntmps29
  go_wp2
  all_goals (try (go_region; all_goals go_wp2))
  all_goals
    refine bodyPost_ret (v := .agg #[.int .i64 5, .string a1, .string a2, .string a3, .int .i64 a4, .slice A5 n5 c5, .slice A6 n6 c6]) (by simp [results, Tryd.results29, go_sem]) rfl ⟨rfl, ?_⟩
    repeat (first | exact Below.refl _ _ | refine Below.setCell ?_ (by simp <;> omega) _ | refine Below.alloc ?_ (by simp <;> omega) _ | refine Below.drew ?_)

set_option maxRecDepth 100000 in
set_option maxHeartbeats 2000000 in
theorem rinv7 (a1 a2 a3 : ByteArray) (a4 : Int) (A5 : Option Addr) (n5 c5 : Nat) (A6 : Option Addr) (n6 c6 : Nat) (w : World) :
    Calls Tryd.prog 29 #[.agg #[.int .i64 7, .string a1, .string a2, .string a3, .int .i64 a4, .slice A5 n5 c5, .slice A6 n6 c6]] w fun e w' => e = .returned (.agg #[.int .i64 7, .string a1, .string a2, .string a3, .int .i64 a4, .slice A6 n6 c6, .slice A5 n5 c5]) ∧ Below w.heap.size w w' := by
  go_enter Tryd.func29, Tryd.ntmps29
  go_wp2
  all_goals (try (go_region; all_goals go_wp2))
  all_goals
    refine bodyPost_ret (v := .agg #[.int .i64 7, .string a1, .string a2, .string a3, .int .i64 a4, .slice A6 n6 c6, .slice A5 n5 c5]) (by simp [results, Tryd.results29, go_sem]) rfl ⟨rfl, ?_⟩
    repeat (first | exact Below.refl _ _ | refine Below.setCell ?_ (by simp <;> omega) _ | refine Below.alloc ?_ (by simp <;> omega) _ | refine Below.drew ?_)

set_option maxRecDepth 100000 in
set_option maxHeartbeats 2000000 in
theorem rinv8 (a1 a2 a3 : ByteArray) (a4 : Int) (A5 : Option Addr) (n5 c5 : Nat) (A6 : Option Addr) (n6 c6 : Nat) (w : World) :
    Calls Tryd.prog 29 #[.agg #[.int .i64 8, .string a1, .string a2, .string a3, .int .i64 a4, .slice A5 n5 c5, .slice A6 n6 c6]] w fun e w' => e = .returned (.agg #[.int .i64 8, .string a1, .string a3, .string a2, .int .i64 a4, .slice A5 n5 c5, .slice A6 n6 c6]) ∧ Below w.heap.size w w' := by
  go_enter Tryd.func29, Tryd.ntmps29
  go_wp2
  all_goals (try (go_region; all_goals go_wp2))
  all_goals
    refine bodyPost_ret (v := .agg #[.int .i64 8, .string a1, .string a3, .string a2, .int .i64 a4, .slice A5 n5 c5, .slice A6 n6 c6]) (by simp [results, Tryd.results29, go_sem]) rfl ⟨rfl, ?_⟩
    repeat (first | exact Below.refl _ _ | refine Below.setCell ?_ (by simp <;> omega) _ | refine Below.alloc ?_ (by simp <;> omega) _ | refine Below.drew ?_)

set_option maxRecDepth 100000 in
set_option maxHeartbeats 2000000 in
theorem rinv9 (a1 a2 a3 : ByteArray) (a4 : Int) (A5 : Option Addr) (n5 c5 : Nat) (A6 : Option Addr) (n6 c6 : Nat) (w : World) :
    Calls Tryd.prog 29 #[.agg #[.int .i64 9, .string a1, .string a2, .string a3, .int .i64 a4, .slice A5 n5 c5, .slice A6 n6 c6]] w fun e w' => e = .returned (.agg #[.int .i64 9, .string a1, .string a3, .string a2, .int .i64 a4, .slice A5 n5 c5, .slice A6 n6 c6]) ∧ Below w.heap.size w w' := by
  go_enter Tryd.func29, Tryd.ntmps29
  go_wp2
  all_goals (try (go_region; all_goals go_wp2))
  all_goals
    refine bodyPost_ret (v := .agg #[.int .i64 9, .string a1, .string a3, .string a2, .int .i64 a4, .slice A5 n5 c5, .slice A6 n6 c6]) (by simp [results, Tryd.results29, go_sem]) rfl ⟨rfl, ?_⟩
    repeat (first | exact Below.refl _ _ | refine Below.setCell ?_ (by simp <;> omega) _ | refine Below.alloc ?_ (by simp <;> omega) _ | refine Below.drew ?_)

set_option maxRecDepth 100000 in
set_option maxHeartbeats 2000000 in
theorem rinv10 (a1 a2 a3 : ByteArray) (a4 : Int) (A5 : Option Addr) (n5 c5 : Nat) (A6 : Option Addr) (n6 c6 : Nat) (w : World) :
    Calls Tryd.prog 29 #[.agg #[.int .i64 10, .string a1, .string a2, .string a3, .int .i64 a4, .slice A5 n5 c5, .slice A6 n6 c6]] w fun e w' => e = .returned (.agg #[.int .i64 10, .string a2, .string a1, .string a3, .int .i64 a4, .slice A5 n5 c5, .slice A6 n6 c6]) ∧ Below w.heap.size w w' := by
  go_enter Tryd.func29, Tryd.ntmps29
  go_wp2
  all_goals (try (go_region; all_goals go_wp2))
  all_goals
    refine bodyPost_ret (v := .agg #[.int .i64 10, .string a2, .string a1, .string a3, .int .i64 a4, .slice A5 n5 c5, .slice A6 n6 c6]) (by simp [results, Tryd.results29, go_sem]) rfl ⟨rfl, ?_⟩
    repeat (first | exact Below.refl _ _ | refine Below.setCell ?_ (by simp <;> omega) _ | refine Below.alloc ?_ (by simp <;> omega) _ | refine Below.drew ?_)

set_option maxRecDepth 100000 in
set_option maxHeartbeats 2000000 in
theorem rinv_no (k : Int) (hk : k < 1 ∨ 10 < k) (a1 a2 a3 : ByteArray) (a4 : Int) (A5 : Option Addr) (n5 c5 : Nat) (A6 : Option Addr) (n6 c6 : Nat) (w : World) :
    Calls Tryd.prog 29 #[.agg #[.int .i64 k, .string a1, .string a2, .string a3, .int .i64 a4, .slice A5 n5 c5, .slice A6 n6 c6]] w fun e w' => e = .returned (.agg #[.int .i64 0, .string ⟨#[]⟩, .string ⟨#[]⟩, .string ⟨#[]⟩, .int .i64 0, .slice none 0 0, .slice none 0 0]) ∧ Below w.heap.size w w' := by
  have e1 : (k == 1) = false := beq_eq_false_iff_ne.mpr (by omega)
  have e2 : (k == 2) = false := beq_eq_false_iff_ne.mpr (by omega)
  have e3 : (k == 3) = false := beq_eq_false_iff_ne.mpr (by omega)
  have e4 : (k == 4) = false := beq_eq_false_iff_ne.mpr (by omega)
  have e5 : (k == 5) = false := beq_eq_false_iff_ne.mpr (by omega)
  have e6 : (k == 6) = false := beq_eq_false_iff_ne.mpr (by omega)
  have e7 : (k == 7) = false := beq_eq_false_iff_ne.mpr (by omega)
  have e8 : (k == 8) = false := beq_eq_false_iff_ne.mpr (by omega)
  have e9 : (k == 9) = false := beq_eq_false_iff_ne.mpr (by omega)
  have e10 : (k == 10) = false := beq_eq_false_iff_ne.mpr (by omega)
  go_enter Tryd.func29, Tryd.ntmps29
  go_wp2
  refine bodyPost_ret (v := .agg #[.int .i64 0, .string ⟨#[]⟩, .string ⟨#[]⟩, .string ⟨#[]⟩, .int .i64 0, .slice none 0 0, .slice none 0 0]) (by simp [results, Tryd.results29, go_sem]) rfl ⟨rfl, ?_⟩
  repeat (first | exact Below.refl _ _ | refine Below.setCell ?_ (by simp <;> omega) _ | refine Below.alloc ?_ (by simp <;> omega) _ | refine Below.drew ?_)

theorem rinv_cells (x : S24) (A5 : Option Addr) (c5 : Nat) (A6 : Option Addr) (c6 : Nat) (w : World) (ok : Nat → Prop) (l5 : x.f5.length ≤ c5) (g5 : Kd.F Kd.string w ok A5 x.f5.length x.f5) (l6 : x.f6.length ≤ c6) (g6 : Kd.F Kd.string w ok A6 x.f6.length x.f6) :
    Calls Tryd.prog 29 #[.agg #[.int .i64 x.f0, .string x.f1, .string x.f2, .string x.f3, .int .i64 x.f4, .slice A5 x.f5.length c5, .slice A6 x.f6.length c6]] w fun e w' =>
      ∃ B5 d5 B6 d6, e = .returned (.agg #[.int .i64 (invS x).f0, .string (invS x).f1, .string (invS x).f2, .string (invS x).f3, .int .i64 (invS x).f4, .slice B5 (invS x).f5.length d5, .slice B6 (invS x).f6.length d6]) ∧
        (invS x).f5.length ≤ d5 ∧ Kd.F Kd.string w' ok B5 (invS x).f5.length (invS x).f5 ∧ (invS x).f6.length ≤ d6 ∧ Kd.F Kd.string w' ok B6 (invS x).f6.length (invS x).f6 ∧ Below w.heap.size w w' := by
  obtain ⟨x0, x1, x2, x3, x4, x5, x6⟩ := x
  by_cases h : x0 < 1 ∨ 10 < x0
  · have hi : invS ⟨x0, x1, x2, x3, x4, x5, x6⟩ = z24 := if_pos h
    rw [hi]
    refine (rinv_no x0 h x1 x2 x3 x4 A5 _ c5 A6 _ c6 w).mono ?_
    rintro e w' ⟨rfl, hb⟩
    exact ⟨none, 0, none, 0, rfl, Nat.le_refl _, Kd.F_nil _ _ _, Nat.le_refl _, Kd.F_nil _ _ _, hb⟩
  have hc : x0 = 1 ∨ x0 = 2 ∨ x0 = 3 ∨ x0 = 4 ∨ x0 = 5 ∨ x0 = 6 ∨ x0 = 7 ∨ x0 = 8 ∨ x0 = 9 ∨ x0 = 10 := by omega
  rcases hc with rfl | rfl | rfl | rfl | rfl | rfl | rfl | rfl | rfl | rfl
  · refine (rinv1 x1 x2 x3 x4 A5 _ c5 A6 _ c6 w).mono ?_
    rintro e w' ⟨rfl, hb⟩
    exact ⟨_, _, _, _, rfl, l5, Kd.F_below g5 hb, l6, Kd.F_below g6 hb, hb⟩
  · refine (rinv2 x1 x2 x3 x4 A5 _ c5 A6 _ c6 w).mono ?_
    rintro e w' ⟨rfl, hb⟩
    exact ⟨_, _, _, _, rfl, l5, Kd.F_below g5 hb, l6, Kd.F_below g6 hb, hb⟩
  · refine (rinv3 x1 x2 x3 x4 A5 _ c5 A6 _ c6 w).mono ?_
    rintro e w' ⟨rfl, hb⟩
    exact ⟨_, _, _, _, rfl, l5, Kd.F_below g5 hb, l6, Kd.F_below g6 hb, hb⟩
  · refine (rinv4 x1 x2 x3 x4 A5 _ c5 A6 _ c6 w).mono ?_
    rintro e w' ⟨rfl, hb⟩
    exact ⟨_, _, _, _, rfl, l5, Kd.F_below g5 hb, l6, Kd.F_below g6 hb, hb⟩
  · refine (rinv5 x1 x2 x3 x4 A5 _ c5 A6 _ c6 w).mono ?_
    rintro e w' ⟨rfl, hb⟩
    exact ⟨_, _, _, _, rfl, l5, Kd.F_below g5 hb, l6, Kd.F_below g6 hb, hb⟩
  · refine (rinv6 x1 x2 x3 x4 A5 _ c5 A6 _ c6 w).mono ?_
    rintro e w' ⟨rfl, hb⟩
    exact ⟨_, _, _, _, rfl, l5, Kd.F_below g5 hb, l6, Kd.F_below g6 hb, hb⟩
  · refine (rinv7 x1 x2 x3 x4 A5 _ c5 A6 _ c6 w).mono ?_
    rintro e w' ⟨rfl, hb⟩
    exact ⟨_, _, _, _, rfl, l6, Kd.F_below g6 hb, l5, Kd.F_below g5 hb, hb⟩
  · refine (rinv8 x1 x2 x3 x4 A5 _ c5 A6 _ c6 w).mono ?_
    rintro e w' ⟨rfl, hb⟩
    exact ⟨_, _, _, _, rfl, l5, Kd.F_below g5 hb, l6, Kd.F_below g6 hb, hb⟩
  · refine (rinv9 x1 x2 x3 x4 A5 _ c5 A6 _ c6 w).mono ?_
    rintro e w' ⟨rfl, hb⟩
    exact ⟨_, _, _, _, rfl, l5, Kd.F_below g5 hb, l6, Kd.F_below g6 hb, hb⟩
  · refine (rinv10 x1 x2 x3 x4 A5 _ c5 A6 _ c6 w).mono ?_
    rintro e w' ⟨rfl, hb⟩
    exact ⟨_, _, _, _, rfl, l5, Kd.F_below g5 hb, l6, Kd.F_below g6 hb, hb⟩
end Go.Proofs.YthhohbidjhcjeaaDoor.H

namespace Go.Proofs.YthhohbidjhcjeaaDoor.Q
open Go.RowKit Go.Proofs.YthhohbidjhcjeaaDoorW.PrintWords Go.Proofs.YthhohbidjhcjeaaDoorW.PrintLast Go.Proofs.YthhohbidjhcjeaaDoorW.PrintMore
open Go.Proofs.YthhohbidjhcjeaaDoor.H
/-! ### in the printed form -/
def counterpaneref09_Invert.f (a0_0 : Int) (a0_1 : ByteArray) (a0_2 : ByteArray) (a0_3 : ByteArray) (a0_4 : Int) (l0_5 : List ByteArray) (l0_6 : List ByteArray) : Option (Int × ByteArray × ByteArray × ByteArray × Int × List ByteArray × List ByteArray) :=
  let q := invS ⟨a0_0, a0_1, a0_2, a0_3, a0_4, l0_5, l0_6⟩
  some (q.f0, q.f1, q.f2, q.f3, q.f4, q.f5, q.f6)
theorem counterpaneref09_Invert.calls (a0_0 : Int) (a0_1 : ByteArray) (a0_2 : ByteArray) (a0_3 : ByteArray) (a0_4 : Int) (P0_5_ : Nat → Prop) (A0_5 : Option Addr) (c0_5 : Nat) (l0_5 : List ByteArray) (P0_6_ : Nat → Prop) (A0_6 : Option Addr) (c0_6 : Nat) (l0_6 : List ByteArray) (r1 : Int) (r2 : ByteArray) (r3 : ByteArray) (r4 : ByteArray) (r5 : Int) (r6 : List ByteArray) (r7 : List ByteArray) (w : World) (hs0_5 : Kd.V Kd.string 9 w w.heap.size (fun k_ => P0_5_ k_) (.slice A0_5 l0_5.length c0_5) l0_5) (hs0_6 : Kd.V Kd.string 9 w w.heap.size (fun k_ => P0_6_ k_) (.slice A0_6 l0_6.length c0_6) l0_6) (h : counterpaneref09_Invert.f a0_0 a0_1 a0_2 a0_3 a0_4 l0_5 l0_6 = some (r1, r2, r3, r4, r5, r6, r7)) :
    Calls Tryd.prog 29 #[.agg #[.int .i64 a0_0, .string a0_1, .string a0_2, .string a0_3, .int .i64 a0_4, .slice A0_5 l0_5.length c0_5, .slice A0_6 l0_6.length c0_6]] w fun e w' => ∃ v5_ v6_ : Value, e = .returned (.agg #[.int .i64 r1, .string r2, .string r3, .string r4, .int .i64 r5, v5_, v6_]) ∧ Kd.V Kd.string 9 w' w.heap.size (fun k_ => ((P0_5_ k_ ∨ P0_6_ k_) ∨ w.heap.size ≤ k_)) v5_ r6 ∧ Kd.V Kd.string 9 w' w.heap.size (fun k_ => ((P0_5_ k_ ∨ P0_6_ k_) ∨ w.heap.size ≤ k_)) v6_ r7 ∧ Below w.heap.size w w' := by
  have e := Option.some.inj h
  simp only [Prod.mk.injEq] at e
  obtain ⟨rfl, rfl, rfl, rfl, rfl, rfl, rfl⟩ := e
  obtain ⟨_, m5, g5⟩ := Kd.V_at hs0_5
  obtain ⟨_, m6, g6⟩ := Kd.V_at hs0_6
  refine (rinv_cells ⟨a0_0, a0_1, a0_2, a0_3, a0_4, l0_5, l0_6⟩ A0_5 c0_5 A0_6 c0_6 w (fun k_ => ((P0_5_ k_ ∨ P0_6_ k_) ∨ w.heap.size ≤ k_)) m5 (Kd.F_mono g5 (fun _ hk => .inl (.inl hk))) m6 (Kd.F_mono g6 (fun _ hk => .inl (.inr hk)))).mono ?_
  rintro e w' ⟨B5, d5, B6, d6, rfl, m5, e5, m6, e6, hb⟩
  exact ⟨_, _, rfl, Kd.V_mk m5 e5, Kd.V_mk m6 e6, hb⟩
end Go.Proofs.YthhohbidjhcjeaaDoor.Q
