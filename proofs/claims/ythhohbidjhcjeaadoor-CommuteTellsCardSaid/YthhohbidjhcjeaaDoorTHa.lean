/- Contracts of invert.opposites and invert.Invert: what they hand back, whatever they are given. -/
import Derived.Test.YthhohbidjhcjeaaDoorTQx0
import Derived.Deep.RegionWith
import Derived.Outline
namespace Go.Proofs.YthhohbidjhcjeaaDoor.H
open Go.RowKit Go.Proofs.YthhohbidjhcjeaaDoorW.PrintWords Go.Proofs.YthhohbidjhcjeaaDoorW.PrintLast Go.Proofs.YthhohbidjhcjeaaDoorW.PrintMore
open Go.Proofs.YthhohbidjhcjeaaDoor.Q

def oppC : Array Value:=#[.int .i64 0,.int .i64 2,.int .i64 1,.int .i64 4,.int .i64 3,.int .i64 6,.int .i64 5,.int .i64 7,.int .i64 8,.int .i64 9,.int .i64 10]

set_option maxHeartbeats 400000 in
theorem opp_calls (w : World) : Calls Tryd.prog 45 #[] w fun e w' => e = .returned (.agg oppC) ∧ w' = w.alloc (.cells oppC 59):=by
 go_enter Tryd.func45,Tryd.ntmps45
 go_wp2
 exact bodyPost_ret (v:=.agg oppC) (by simp [results,Tryd.results45,go_sem,oppC]) rfl ⟨rfl,rfl⟩

set_option maxRecDepth 100000 in
set_option maxHeartbeats 2000000 in
theorem inv_add (k o : Int) (h1 : 1 ≤ k) (h6 : k ≤ 6) (hi : ∀ w,(Instr.index 59 (.agg oppC) (.int .i64 k)).run Tryd.prog w = .ok (.int .i64 o) w) (a1 a2 a3 : ByteArray) (a4 : Int) (A5 : Option Addr) (n5 c5 : Nat) (A6 : Option Addr) (n6 c6 : Nat) (w : World) :
  Calls Tryd.prog 18 #[.agg #[.int .i64 k,.string a1,.string a2,.string a3,.int .i64 a4,.slice A5 n5 c5,.slice A6 n6 c6]] w fun e w' =>
   e = .returned (.agg #[.int .i64 o,.string a1,.string a2,.string a3,.int .i64 a4,.slice A5 n5 c5,.slice A6 n6 c6]) ∧ Below w.heap.size w w':=by
 go_enter Tryd.func18,Tryd.ntmps18
 go_wp2_with (fail)
 go_region_with (go_at_call 45; refine (opp_calls _).mono ?_; rintro e w' ⟨rfl,rfl⟩)
 all_goals go_wp2
 all_goals (try (go_region; all_goals go_wp2))
 all_goals
  refine bodyPost_ret (v:=.agg #[.int .i64 o,.string a1,.string a2,.string a3,.int .i64 a4,.slice A5 n5 c5,.slice A6 n6 c6]) (by simp [results,Tryd.results18,go_sem]) rfl ⟨rfl,?_⟩
  repeat (first | exact Below.refl _ _ | refine Below.setCell ?_ (by simp <;> omega) _ | refine Below.alloc ?_ (by simp <;> omega) _ | refine Below.drew ?_)

set_option maxRecDepth 100000 in
set_option maxHeartbeats 2000000 in
theorem inv8 (a1 a2 a3 : ByteArray) (a4 : Int) (A5 : Option Addr) (n5 c5 : Nat) (A6 : Option Addr) (n6 c6 : Nat) (w : World) :
  Calls Tryd.prog 18 #[.agg #[.int .i64 8,.string a1,.string a2,.string a3,.int .i64 a4,.slice A5 n5 c5,.slice A6 n6 c6]] w fun e w' =>
   e = .returned (.agg #[.int .i64 8,.string a1,.string a3,.string a2,.int .i64 a4,.slice A5 n5 c5,.slice A6 n6 c6]) ∧ Below w.heap.size w w':=by
 have hi : ∀ w,(Instr.index 59 (.agg oppC) (.int .i64 8)).run Tryd.prog w = .ok (.int .i64 8) w:=fun _ => by kernel_rfl
 go_enter Tryd.func18,Tryd.ntmps18
 go_wp2_with (fail)
 go_region_with (go_at_call 45; refine (opp_calls _).mono ?_; rintro e w' ⟨rfl,rfl⟩)
 all_goals go_wp2
 all_goals (go_region; all_goals go_wp2)
 all_goals
  refine bodyPost_ret (v:=.agg #[.int .i64 8,.string a1,.string a3,.string a2,.int .i64 a4,.slice A5 n5 c5,.slice A6 n6 c6]) (by simp [results,Tryd.results18,go_sem]) rfl ⟨rfl,?_⟩
  repeat (first | exact Below.refl _ _ | refine Below.setCell ?_ (by simp <;> omega) _ | refine Below.alloc ?_ (by simp <;> omega) _ | refine Below.drew ?_)

set_option maxRecDepth 100000 in
set_option maxHeartbeats 2000000 in
theorem inv9 (a1 a2 a3 : ByteArray) (a4 : Int) (A5 : Option Addr) (n5 c5 : Nat) (A6 : Option Addr) (n6 c6 : Nat) (w : World) :
  Calls Tryd.prog 18 #[.agg #[.int .i64 9,.string a1,.string a2,.string a3,.int .i64 a4,.slice A5 n5 c5,.slice A6 n6 c6]] w fun e w' =>
   e = .returned (.agg #[.int .i64 9,.string a1,.string a3,.string a2,.int .i64 a4,.slice A5 n5 c5,.slice A6 n6 c6]) ∧ Below w.heap.size w w':=by
 have hi : ∀ w,(Instr.index 59 (.agg oppC) (.int .i64 9)).run Tryd.prog w = .ok (.int .i64 9) w:=fun _ => by kernel_rfl
 go_enter Tryd.func18,Tryd.ntmps18
 go_wp2_with (fail)
 go_region_with (go_at_call 45; refine (opp_calls _).mono ?_; rintro e w' ⟨rfl,rfl⟩)
 all_goals go_wp2
 all_goals (go_region; all_goals go_wp2)
 all_goals
  refine bodyPost_ret (v:=.agg #[.int .i64 9,.string a1,.string a3,.string a2,.int .i64 a4,.slice A5 n5 c5,.slice A6 n6 c6]) (by simp [results,Tryd.results18,go_sem]) rfl ⟨rfl,?_⟩
  repeat (first | exact Below.refl _ _ | refine Below.setCell ?_ (by simp <;> omega) _ | refine Below.alloc ?_ (by simp <;> omega) _ | refine Below.drew ?_)

set_option maxRecDepth 100000 in
set_option maxHeartbeats 2000000 in
theorem inv10 (a1 a2 a3 : ByteArray) (a4 : Int) (A5 : Option Addr) (n5 c5 : Nat) (A6 : Option Addr) (n6 c6 : Nat) (w : World) :
  Calls Tryd.prog 18 #[.agg #[.int .i64 10,.string a1,.string a2,.string a3,.int .i64 a4,.slice A5 n5 c5,.slice A6 n6 c6]] w fun e w' =>
   e = .returned (.agg #[.int .i64 10,.string a2,.string a1,.string a3,.int .i64 a4,.slice A5 n5 c5,.slice A6 n6 c6]) ∧ Below w.heap.size w w':=by
 have hi : ∀ w,(Instr.index 59 (.agg oppC) (.int .i64 10)).run Tryd.prog w = .ok (.int .i64 10) w:=fun _ => by kernel_rfl
 go_enter Tryd.func18,Tryd.ntmps18
 go_wp2_with (fail)
 go_region_with (go_at_call 45; refine (opp_calls _).mono ?_; rintro e w' ⟨rfl,rfl⟩)
 all_goals go_wp2
 all_goals (go_region; all_goals go_wp2)
 all_goals
  refine bodyPost_ret (v:=.agg #[.int .i64 10,.string a2,.string a1,.string a3,.int .i64 a4,.slice A5 n5 c5,.slice A6 n6 c6]) (by simp [results,Tryd.results18,go_sem]) rfl ⟨rfl,?_⟩
  repeat (first | exact Below.refl _ _ | refine Below.setCell ?_ (by simp <;> omega) _ | refine Below.alloc ?_ (by simp <;> omega) _ | refine Below.drew ?_)

set_option maxRecDepth 100000 in
set_option maxHeartbeats 2000000 in
theorem inv7 (a1 a2 a3 : ByteArray) (a4 : Int) (A5 : Option Addr) (n5 c5 : Nat) (A6 : Option Addr) (n6 c6 : Nat) (w : World) :
  Calls Tryd.prog 18 #[.agg #[.int .i64 7,.string a1,.string a2,.string a3,.int .i64 a4,.slice A5 n5 c5,.slice A6 n6 c6]] w fun e w' =>
   e = .returned (.agg #[.int .i64 7,.string a1,.string a2,.string a3,.int .i64 a4,.slice A6 n6 c6,.slice A5 n5 c5]) ∧ Below w.heap.size w w':=by
 have hi : ∀ w,(Instr.index 59 (.agg oppC) (.int .i64 7)).run Tryd.prog w = .ok (.int .i64 7) w:=fun _ => by kernel_rfl
 go_enter Tryd.func18,Tryd.ntmps18
 go_wp2_with (fail)
 go_region_with (go_at_call 45; refine (opp_calls _).mono ?_; rintro e w' ⟨rfl,rfl⟩)
 all_goals go_wp2
 all_goals (go_region; all_goals go_wp2)
 all_goals
  refine bodyPost_ret (v:=.agg #[.int .i64 7,.string a1,.string a2,.string a3,.int .i64 a4,.slice A6 n6 c6,.slice A5 n5 c5]) (by simp [results,Tryd.results18,go_sem]) rfl ⟨rfl,?_⟩
  repeat (first | exact Below.refl _ _ | refine Below.setCell ?_ (by simp <;> omega) _ | refine Below.alloc ?_ (by simp <;> omega) _ | refine Below.drew ?_)

set_option maxRecDepth 100000 in
set_option maxHeartbeats 2000000 in
theorem inv_no (k : Int) (hk : k < 1 ∨ 10 < k) (a1 a2 a3 : ByteArray) (a4 : Int) (A5 : Option Addr) (n5 c5 : Nat) (A6 : Option Addr) (n6 c6 : Nat) (w : World) :
  Calls Tryd.prog 18 #[.agg #[.int .i64 k,.string a1,.string a2,.string a3,.int .i64 a4,.slice A5 n5 c5,.slice A6 n6 c6]] w fun e w' =>
   e = .returned (.agg #[.int .i64 0,.string ⟨#[]⟩,.string ⟨#[]⟩,.string ⟨#[]⟩,.int .i64 0,.slice none 0 0,.slice none 0 0]) ∧ Below w.heap.size w w':=by
 rcases hk with hk | hk
 ·go_enter Tryd.func18,Tryd.ntmps18
  go_wp2
  refine bodyPost_ret (v:=.agg #[.int .i64 0,.string ⟨#[]⟩,.string ⟨#[]⟩,.string ⟨#[]⟩,.int .i64 0,.slice none 0 0,.slice none 0 0]) (by simp [results,Tryd.results18,go_sem]) rfl ⟨rfl,?_⟩
  repeat (first | exact Below.refl _ _ | refine Below.setCell ?_ (by simp <;> omega) _ | refine Below.alloc ?_ (by simp <;> omega) _ | refine Below.drew ?_)
 ·have h1 : ¬ k < 1:=by omega
  go_enter Tryd.func18,Tryd.ntmps18
  go_wp2
  refine bodyPost_ret (v:=.agg #[.int .i64 0,.string ⟨#[]⟩,.string ⟨#[]⟩,.string ⟨#[]⟩,.int .i64 0,.slice none 0 0,.slice none 0 0]) (by simp [results,Tryd.results18,go_sem]) rfl ⟨rfl,?_⟩
  repeat (first | exact Below.refl _ _ | refine Below.setCell ?_ (by simp <;> omega) _ | refine Below.alloc ?_ (by simp <;> omega) _ | refine Below.drew ?_)

/-! ### what Invert answers -/
def opp (k : Int) : Int:=if k % 2 = 1 then k + 1 else k - 1
def invS (p : S24) : S24 :=
 if p.f0 < 1 ∨ 10 < p.f0 then z24
 else if p.f0 = 7 then ⟨7,p.f1,p.f2,p.f3,p.f4,p.f6,p.f5⟩
 else if p.f0 = 8 then ⟨8,p.f1,p.f3,p.f2,p.f4,p.f5,p.f6⟩
 else if p.f0 = 9 then ⟨9,p.f1,p.f3,p.f2,p.f4,p.f5,p.f6⟩
 else if p.f0 = 10 then ⟨10,p.f2,p.f1,p.f3,p.f4,p.f5,p.f6⟩
 else ⟨opp p.f0,p.f1,p.f2,p.f3,p.f4,p.f5,p.f6⟩

set_option maxRecDepth 100000 in
theorem idx_opp (k : Int) (h1 : 1 ≤ k) (h6 : k ≤ 6) : ∀ w,(Instr.index 59 (.agg oppC) (.int .i64 k)).run Tryd.prog w = .ok (.int .i64 (opp k)) w:=by
 have : k = 1 ∨ k = 2 ∨ k = 3 ∨ k = 4 ∨ k = 5 ∨ k = 6:=by omega
 rcases this with rfl | rfl | rfl | rfl | rfl | rfl <;> exact fun _ => by kernel_rfl

/-- Invert at a patch whose cells are known. -/
theorem inv_cells (x : S24) (A5 : Option Addr) (c5 : Nat) (A6 : Option Addr) (c6 : Nat) (w : World) (ok : Nat → Prop) (l5 : x.f5.length ≤ c5) (g5 : Kd.F Kd.string w ok A5 x.f5.length x.f5) (l6 : x.f6.length ≤ c6) (g6 : Kd.F Kd.string w ok A6 x.f6.length x.f6) :
  Calls Tryd.prog 18 #[.agg #[.int .i64 x.f0,.string x.f1,.string x.f2,.string x.f3,.int .i64 x.f4,.slice A5 x.f5.length c5,.slice A6 x.f6.length c6]] w fun e w' =>
   ∃ B5 d5 B6 d6,e = .returned (.agg #[.int .i64 (invS x).f0,.string (invS x).f1,.string (invS x).f2,.string (invS x).f3,.int .i64 (invS x).f4,.slice B5 (invS x).f5.length d5,.slice B6 (invS x).f6.length d6]) ∧
    (invS x).f5.length ≤ d5 ∧ Kd.F Kd.string w' ok B5 (invS x).f5.length (invS x).f5 ∧ (invS x).f6.length ≤ d6 ∧ Kd.F Kd.string w' ok B6 (invS x).f6.length (invS x).f6 ∧ Below w.heap.size w w':=by
 obtain ⟨x0,x1,x2,x3,x4,x5,x6⟩:=x
 simp only [invS]
 by_cases h : x0 < 1 ∨ 10 < x0
 ·rw [if_pos h]
  refine (inv_no x0 h x1 x2 x3 x4 A5 _ c5 A6 _ c6 w).mono ?_
  rintro e w' ⟨rfl,hb⟩
  exact ⟨none,0,none,0,rfl,Nat.le_refl _,Kd.F_nil _ _ _,Nat.le_refl _,Kd.F_nil _ _ _,hb⟩
 rw [if_neg h]
 by_cases h7 : x0 = 7
 ·subst h7
  rw [if_pos rfl]
  refine (inv7 x1 x2 x3 x4 A5 _ c5 A6 _ c6 w).mono ?_
  rintro e w' ⟨rfl,hb⟩
  exact ⟨_,_,_,_,rfl,l6,Kd.F_below g6 hb,l5,Kd.F_below g5 hb,hb⟩
 rw [if_neg h7]
 by_cases h8 : x0 = 8
 ·subst h8
  rw [if_pos rfl]
  refine (inv8 x1 x2 x3 x4 A5 _ c5 A6 _ c6 w).mono ?_
  rintro e w' ⟨rfl,hb⟩
  exact ⟨_,_,_,_,rfl,l5,Kd.F_below g5 hb,l6,Kd.F_below g6 hb,hb⟩
 rw [if_neg h8]
 by_cases h9 : x0 = 9
 ·subst h9
  rw [if_pos rfl]
  refine (inv9 x1 x2 x3 x4 A5 _ c5 A6 _ c6 w).mono ?_
  rintro e w' ⟨rfl,hb⟩
  exact ⟨_,_,_,_,rfl,l5,Kd.F_below g5 hb,l6,Kd.F_below g6 hb,hb⟩
 rw [if_neg h9]
 by_cases h10 : x0 = 10
 ·subst h10
  rw [if_pos rfl]
  refine (inv10 x1 x2 x3 x4 A5 _ c5 A6 _ c6 w).mono ?_
  rintro e w' ⟨rfl,hb⟩
  exact ⟨_,_,_,_,rfl,l5,Kd.F_below g5 hb,l6,Kd.F_below g6 hb,hb⟩
 rw [if_neg h10]
 refine (inv_add x0 (opp x0) (by omega) (by omega) (idx_opp x0 (by omega) (by omega)) x1 x2 x3 x4 A5 _ c5 A6 _ c6 w).mono ?_
 rintro e w' ⟨rfl,hb⟩
 exact ⟨_,_,_,_,rfl,l5,Kd.F_below g5 hb,l6,Kd.F_below g6 hb,hb⟩

end Go.Proofs.YthhohbidjhcjeaaDoor.H

namespace Go.Proofs.YthhohbidjhcjeaaDoor.Q
open Go.RowKit Go.Proofs.YthhohbidjhcjeaaDoorW.PrintWords Go.Proofs.YthhohbidjhcjeaaDoorW.PrintLast Go.Proofs.YthhohbidjhcjeaaDoorW.PrintMore
open Go.Proofs.YthhohbidjhcjeaaDoor.H
/-! ### in the printed form -/
def invert_Invert.f (a0_0 : Int) (a0_1 : ByteArray) (a0_2 : ByteArray) (a0_3 : ByteArray) (a0_4 : Int) (l0_5 : List ByteArray) (l0_6 : List ByteArray) : Option (Int × ByteArray × ByteArray × ByteArray × Int × List ByteArray × List ByteArray) :=
 let q:=invS ⟨a0_0,a0_1,a0_2,a0_3,a0_4,l0_5,l0_6⟩
 some (q.f0,q.f1,q.f2,q.f3,q.f4,q.f5,q.f6)
theorem invert_Invert.calls (a0_0 : Int) (a0_1 : ByteArray) (a0_2 : ByteArray) (a0_3 : ByteArray) (a0_4 : Int) (P0_5_ : Nat → Prop) (A0_5 : Option Addr) (c0_5 : Nat) (l0_5 : List ByteArray) (P0_6_ : Nat → Prop) (A0_6 : Option Addr) (c0_6 : Nat) (l0_6 : List ByteArray) (r1 : Int) (r2 : ByteArray) (r3 : ByteArray) (r4 : ByteArray) (r5 : Int) (r6 : List ByteArray) (r7 : List ByteArray) (w : World) (hs0_5 : Kd.V Kd.string 9 w w.heap.size (fun k_ => P0_5_ k_) (.slice A0_5 l0_5.length c0_5) l0_5) (hs0_6 : Kd.V Kd.string 9 w w.heap.size (fun k_ => P0_6_ k_) (.slice A0_6 l0_6.length c0_6) l0_6) (h : invert_Invert.f a0_0 a0_1 a0_2 a0_3 a0_4 l0_5 l0_6 = some (r1,r2,r3,r4,r5,r6,r7)) :
  Calls Tryd.prog 18 #[.agg #[.int .i64 a0_0,.string a0_1,.string a0_2,.string a0_3,.int .i64 a0_4,.slice A0_5 l0_5.length c0_5,.slice A0_6 l0_6.length c0_6]] w fun e w' => ∃ v5_ v6_ : Value,e = .returned (.agg #[.int .i64 r1,.string r2,.string r3,.string r4,.int .i64 r5,v5_,v6_]) ∧ Kd.V Kd.string 9 w' w.heap.size (fun k_ => ((P0_5_ k_ ∨ P0_6_ k_) ∨ w.heap.size ≤ k_)) v5_ r6 ∧ Kd.V Kd.string 9 w' w.heap.size (fun k_ => ((P0_5_ k_ ∨ P0_6_ k_) ∨ w.heap.size ≤ k_)) v6_ r7 ∧ Below w.heap.size w w':=by
 have e:=Option.some.inj h
 simp only [Prod.mk.injEq] at e
 obtain ⟨rfl,rfl,rfl,rfl,rfl,rfl,rfl⟩:=e
 obtain ⟨_,m5,g5⟩:=Kd.V_at hs0_5
 obtain ⟨_,m6,g6⟩:=Kd.V_at hs0_6
 refine (inv_cells ⟨a0_0,a0_1,a0_2,a0_3,a0_4,l0_5,l0_6⟩ A0_5 c0_5 A0_6 c0_6 w (fun k_ => ((P0_5_ k_ ∨ P0_6_ k_) ∨ w.heap.size ≤ k_)) m5 (Kd.F_mono g5 (fun _ hk => .inl (.inl hk))) m6 (Kd.F_mono g6 (fun _ hk => .inl (.inr hk)))).mono ?_
 rintro e w' ⟨B5,d5,B6,d6,rfl,m5,e5,m6,e6,hb⟩
 exact ⟨_,_,rfl,Kd.V_mk m5 e5,Kd.V_mk m6 e6,hb⟩
end Go.Proofs.YthhohbidjhcjeaaDoor.Q
