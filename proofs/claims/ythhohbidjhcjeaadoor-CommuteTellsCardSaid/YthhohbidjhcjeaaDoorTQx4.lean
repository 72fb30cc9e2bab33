/- Printed by a program of this place out of the translation: what the functions compute, and their contracts. -/
import Derived.Test.YthhohbidjhcjeaaDoorTQx0
namespace Go.Proofs.YthhohbidjhcjeaaDoor.Q
open Go.RowKit Go.Proofs.YthhohbidjhcjeaaDoorW.PrintWords Go.Proofs.YthhohbidjhcjeaaDoorW.PrintLast Go.Proofs.YthhohbidjhcjeaaDoorW.PrintMore
attribute [local go_sem] max2_int min2_int max_two min_two max_three min_three max_four min_four   -- for this text's walks alone
set_option linter.unusedVariables false
set_option linter.unusedSimpArgs false

/-! ### counterpaneref05_Same: function 50 -/
def counterpaneref05_Same.l0 : Nat → List ByteArray → List ByteArray → Int → Option (Bool)
 | 0,_,_,_ => none
 | k + 1,x0,x1,x5 => if x5 < (x0.length : Int) then (if 0 ≤ x5 then (if x5 < (x1.length : Int) then (if (rdOf ByteArray.empty x0 x5).toList = (rdOf ByteArray.empty x1 x5).toList then (counterpaneref05_Same.l0 k x0 x1 (wrap64 (x5 + 1))) else (some false)) else (none)) else (none)) else (some true)
def counterpaneref05_Same.f (k : Nat) (l0 : List ByteArray) (l1 : List ByteArray) : Option (Bool):=if (l0.length : Int) = (l1.length : Int) then (counterpaneref05_Same.l0 k l0 l1 0) else (some false)
theorem counterpaneref05_Same.mono_l : ∀ k,(∀ y0 y1 y2,LeO (counterpaneref05_Same.l0 k y0 y1 y2) (counterpaneref05_Same.l0 (k + 1) y0 y1 y2))
 | 0 => fun _ _ _ r h => by simp [counterpaneref05_Same.l0] at h
 | k + 1 => by
  have ih0:=counterpaneref05_Same.mono_l k
  ·intro y0 y1 y2
   unfold counterpaneref05_Same.l0
   repeat' first
   | (with_reducible exact ih0 _ _ _)
   | (with_reducible exact LeO.refl _)
   | (with_reducible exact LeO.none _)
   | (with_reducible refine LeO.ite ?_ ?_)
   | (with_reducible refine LeO.bind ?_ (fun _ => ?_))
   | exact ih0 _ _ _
   | exact LeO.none _
   | refine LeO.ite ?_ ?_
   | refine LeO.bind ?_ (fun _ => ?_)
theorem counterpaneref05_Same.mono : ∀ a0 a1 k,LeO (counterpaneref05_Same.f k a0 a1) (counterpaneref05_Same.f (k + 1) a0 a1):=by
 intro a0 a1 k
 have ih0:=counterpaneref05_Same.mono_l k
 unfold counterpaneref05_Same.f
 repeat' first
   | (with_reducible exact ih0 _ _ _)
   | (with_reducible exact LeO.refl _)
   | (with_reducible exact LeO.none _)
   | (with_reducible refine LeO.ite ?_ ?_)
   | (with_reducible refine LeO.bind ?_ (fun _ => ?_))
   | exact ih0 _ _ _
   | exact LeO.none _
   | refine LeO.ite ?_ ?_
   | refine LeO.bind ?_ (fun _ => ?_)
set_option maxHeartbeats 8000000 in
set_option maxRecDepth 100000 in
theorem counterpaneref05_Same.calls (k : Nat) (A0 : Option Addr) (c0 : Nat) (l0 : List ByteArray) (A1 : Option Addr) (c1 : Nat) (l1 : List ByteArray) (r : Bool) (w : World) (hr0 : Kd.C Kd.string w A0 l0.length l0) (hc0 : l0.length ≤ c0) (hr1 : Kd.C Kd.string w A1 l1.length l1) (hc1 : l1.length ≤ c1) (h : counterpaneref05_Same.f k l0 l1 = some r) :
  Calls Tryd.prog 50 #[.slice A0 l0.length c0,.slice A1 l1.length c1] w fun e w' => e = .returned (.bool r) ∧ Drawn0 w w':=by
 have HR0:=Aside0.mk hr0
 have HC0:=Aside0.mk hc0
 clear hr0 hc0
 have HR1:=Aside0.mk hr1
 have HC1:=Aside0.mk hc1
 clear hr1 hc1
 have H : (if (l0.length : Int) = (l1.length : Int) then (counterpaneref05_Same.l0 k l0 l1 0) else (some false)) = some r:=h
 clear h
 by_cases c3 : (l0.length : Int) = (l1.length : Int)
 ·rw [if_pos c3] at H
  have c3b0 : ((l0.length : Int) == (l1.length : Int)) = true:=beq_iff_eq.mpr c3
  have c3b1 : ((l0.length : Int) != (l1.length : Int)) = false:=bne_eq_false_iff_eq.mpr c3
  have c3b2 : (l0.length == l1.length) = true:=by first | simpa using c3 | (simp at c3 ⊢; omega)
  clear c3
  have H':=Aside0.mk H
  clear H
  go_enter Tryd.func50,Tryd.ntmps50
  go_wp2
  repeat (go_quiet (fail); try go_wp2)
  go_loopg [5] k (fun kq v5 w' => ∃ (x5_1 : Int),v5 = .int .i64 x5_1 ∧ Aside0 (counterpaneref05_Same.l0 kq l0 l1 x5_1 = some r) ∧ Aside0 (kq ≤ k) ∧ Drawn0 w w')
  case atStart => exact ⟨(0),(by first | rfl | (simp; done) | (simp [*]; done)),H',⟨Nat.le_refl _⟩,by repeat (first | exact Drawn0.refl _ | apply Drawn0.step)⟩
  case round =>
   clear H'
   try clear c1
   try clear p2
   try clear c3
   try clear c3b0
   try clear c3b1
   try clear c3b2
   obtain ⟨x5_1,rfl,HA,HK1,⟨m1,rfl⟩⟩:=hrel
   cases gk with
   | zero => exact absurd HA.out (by simp [counterpaneref05_Same.l0])
   | succ k1 =>
    have H:=HA.out
    clear HA
    simp only [counterpaneref05_Same.l0] at H
    by_cases c4 : x5_1 < (l0.length : Int)
    ·rw [if_pos c4] at H
     have c4b0 : decide (x5_1 < (l0.length : Int)) = true:=decide_eq_true c4
     clear c4
     by_cases c5 : 0 ≤ x5_1
     ·rw [if_pos c5] at H
      have c5b0 : decide (0 ≤ x5_1) = true:=decide_eq_true c5
      clear c5
      by_cases c6 : x5_1 < (l1.length : Int)
      ·rw [if_pos c6] at H
       have c6b0 : decide (x5_1 < (l1.length : Int)) = true:=decide_eq_true c6
       clear c6
       by_cases c7 : (rdOf ByteArray.empty l0 x5_1).toList = (rdOf ByteArray.empty l1 x5_1).toList
       ·rw [if_pos c7] at H
        have c7b0 : ((rdOf ByteArray.empty l0 x5_1).toList == (rdOf ByteArray.empty l1 x5_1).toList) = true:=beq_iff_eq.mpr c7
        have c7b1 : ((rdOf ByteArray.empty l0 x5_1).toList != (rdOf ByteArray.empty l1 x5_1).toList) = false:=bne_eq_false_iff_eq.mpr c7
        clear c7
        have H':=Aside0.mk H
        clear H
        have p122 : 0 ≤ (x5_1 : Int):=of_decide_eq_true (by first | (with_reducible assumption) | assumption)
        have q122 : x5_1 < (l0.length : Int):=of_decide_eq_true (by first | (with_reducible assumption) | assumption)
        obtain ⟨ad122,e122,hx122_0⟩:=Kd.at_string HR0.out x5_1 p122 q122
        cases e122
        replace p122:=eq_true p122
        replace q122:=eq_true q122
        have p123 : 0 ≤ (x5_1 : Int):=of_decide_eq_true (by first | (with_reducible assumption) | assumption)
        have q123 : x5_1 < (l1.length : Int):=of_decide_eq_true (by first | (with_reducible assumption) | assumption)
        obtain ⟨ad123,e123,hx123_0⟩:=Kd.at_string HR1.out x5_1 p123 q123
        cases e123
        replace p123:=eq_true p123
        replace q123:=eq_true q123
        go_wp2
        repeat (go_quiet (fail); try go_wp2)
        go_roundg k1
        case measure => have:=HK1.out; omega
        case rel => exact ⟨(wrap64 (x5_1 + 1)),(by first | rfl | (simp; done) | (simp [*]; done)),H',⟨by have:=HK1.out; omega⟩,by repeat (first | exact Drawn0.refl _ | apply Drawn0.step)⟩
       ·rw [if_neg c7] at H
        have c7b0 : ((rdOf ByteArray.empty l0 x5_1).toList == (rdOf ByteArray.empty l1 x5_1).toList) = false:=beq_eq_false_iff_ne.mpr c7
        have c7b1 : ((rdOf ByteArray.empty l0 x5_1).toList != (rdOf ByteArray.empty l1 x5_1).toList) = true:=bne_iff_ne.mpr c7
        obtain rfl:=Option.some.inj H
        have p122 : 0 ≤ (x5_1 : Int):=of_decide_eq_true (by first | (with_reducible assumption) | assumption)
        have q122 : x5_1 < (l0.length : Int):=of_decide_eq_true (by first | (with_reducible assumption) | assumption)
        obtain ⟨ad122,e122,hx122_0⟩:=Kd.at_string HR0.out x5_1 p122 q122
        cases e122
        replace p122:=eq_true p122
        replace q122:=eq_true q122
        have p123 : 0 ≤ (x5_1 : Int):=of_decide_eq_true (by first | (with_reducible assumption) | assumption)
        have q123 : x5_1 < (l1.length : Int):=of_decide_eq_true (by first | (with_reducible assumption) | assumption)
        obtain ⟨ad123,e123,hx123_0⟩:=Kd.at_string HR1.out x5_1 p123 q123
        cases e123
        replace p123:=eq_true p123
        replace q123:=eq_true q123
        go_wp2
        repeat (go_quiet (fail); try go_wp2)
        go_ret
        exact ⟨by first | rfl | (simp; done) | (simp [*]; done),by repeat (first | exact Drawn0.refl _ | apply Drawn0.step)⟩
      ·rw [if_neg c6] at H
       exact absurd H (by simp)
     ·rw [if_neg c5] at H
      exact absurd H (by simp)
    ·rw [if_neg c4] at H
     have c4b0 : decide (x5_1 < (l0.length : Int)) = false:=decide_eq_false c4
     clear c4
     obtain rfl:=Option.some.inj H
     go_wp2
     repeat (go_quiet (fail); try go_wp2)
     go_ret
     exact ⟨by first | rfl | (simp; done) | (simp [*]; done),by repeat (first | exact Drawn0.refl _ | apply Drawn0.step)⟩
 ·rw [if_neg c3] at H
  have c3b0 : ((l0.length : Int) == (l1.length : Int)) = false:=beq_eq_false_iff_ne.mpr c3
  have c3b1 : ((l0.length : Int) != (l1.length : Int)) = true:=bne_iff_ne.mpr c3
  have c3b2 : (l0.length == l1.length) = false:=by first | simpa using c3 | (simp at c3 ⊢; omega)
  obtain rfl:=Option.some.inj H
  go_enter Tryd.func50,Tryd.ntmps50
  go_wp2
  repeat (go_quiet (fail); try go_wp2)
  go_ret
  exact ⟨by first | rfl | (simp; done) | (simp [*]; done),by repeat (first | exact Drawn0.refl _ | apply Drawn0.step)⟩

/-! ### counterpaneref08_Same: function 20 -/
def counterpaneref08_Same.f (k : Nat) (a0_0 : Int) (a0_1 : ByteArray) (a0_2 : ByteArray) (a0_3 : ByteArray) (a0_4 : Int) (l0_5 : List ByteArray) (l0_6 : List ByteArray) (a1_0 : Int) (a1_1 : ByteArray) (a1_2 : ByteArray) (a1_3 : ByteArray) (a1_4 : Int) (l1_5 : List ByteArray) (l1_6 : List ByteArray) : Option (Bool):=if a0_0 = a1_0 then (if a0_1.toList = a1_1.toList then (if a0_2.toList = a1_2.toList then (if a0_3.toList = a1_3.toList then (if a0_4 = a1_4 then ((counterpaneref05_Same.f k l0_5 l1_5).bind fun t126 => (if t126 = true then ((counterpaneref05_Same.f k l0_6 l1_6).bind fun t127 => (some t127)) else (some false))) else (some false)) else (some false)) else (some false)) else (some false)) else (some false)
theorem counterpaneref08_Same.mono : ∀ a0 a1 a2 a3 a4 a5 a6 a7 a8 a9 a10 a11 a12 a13 k,LeO (counterpaneref08_Same.f k a0 a1 a2 a3 a4 a5 a6 a7 a8 a9 a10 a11 a12 a13) (counterpaneref08_Same.f (k + 1) a0 a1 a2 a3 a4 a5 a6 a7 a8 a9 a10 a11 a12 a13):=by
 intro a0 a1 a2 a3 a4 a5 a6 a7 a8 a9 a10 a11 a12 a13 k
 unfold counterpaneref08_Same.f
 repeat' first
   | (with_reducible exact counterpaneref05_Same.mono _ _ _)
   | (with_reducible exact LeO.refl _)
   | (with_reducible exact LeO.none _)
   | (with_reducible refine LeO.ite ?_ ?_)
   | (with_reducible refine LeO.bind ?_ (fun _ => ?_))
   | exact counterpaneref05_Same.mono _ _ _
   | exact LeO.none _
   | refine LeO.ite ?_ ?_
   | refine LeO.bind ?_ (fun _ => ?_)
set_option maxHeartbeats 8000000 in
set_option maxRecDepth 100000 in
theorem counterpaneref08_Same.calls (k : Nat) (a0_0 : Int) (a0_1 : ByteArray) (a0_2 : ByteArray) (a0_3 : ByteArray) (a0_4 : Int) (A0_5 : Option Addr) (c0_5 : Nat) (l0_5 : List ByteArray) (A0_6 : Option Addr) (c0_6 : Nat) (l0_6 : List ByteArray) (a1_0 : Int) (a1_1 : ByteArray) (a1_2 : ByteArray) (a1_3 : ByteArray) (a1_4 : Int) (A1_5 : Option Addr) (c1_5 : Nat) (l1_5 : List ByteArray) (A1_6 : Option Addr) (c1_6 : Nat) (l1_6 : List ByteArray) (r : Bool) (w : World) (hr0_5 : Kd.C Kd.string w A0_5 l0_5.length l0_5) (hc0_5 : l0_5.length ≤ c0_5) (hr0_6 : Kd.C Kd.string w A0_6 l0_6.length l0_6) (hc0_6 : l0_6.length ≤ c0_6) (hr1_5 : Kd.C Kd.string w A1_5 l1_5.length l1_5) (hc1_5 : l1_5.length ≤ c1_5) (hr1_6 : Kd.C Kd.string w A1_6 l1_6.length l1_6) (hc1_6 : l1_6.length ≤ c1_6) (h : counterpaneref08_Same.f k a0_0 a0_1 a0_2 a0_3 a0_4 l0_5 l0_6 a1_0 a1_1 a1_2 a1_3 a1_4 l1_5 l1_6 = some r) :
  Calls Tryd.prog 20 #[.agg #[.int .i64 a0_0,.string a0_1,.string a0_2,.string a0_3,.int .i64 a0_4,.slice A0_5 l0_5.length c0_5,.slice A0_6 l0_6.length c0_6],.agg #[.int .i64 a1_0,.string a1_1,.string a1_2,.string a1_3,.int .i64 a1_4,.slice A1_5 l1_5.length c1_5,.slice A1_6 l1_6.length c1_6]] w fun e w' => e = .returned (.bool r) ∧ Below w.heap.size w w':=by
 have hu24:=Tryd.underlying24
 have HR0_5:=Aside0.mk hr0_5
 have HC0_5:=Aside0.mk hc0_5
 clear hr0_5 hc0_5
 have HR0_6:=Aside0.mk hr0_6
 have HC0_6:=Aside0.mk hc0_6
 clear hr0_6 hc0_6
 have HR1_5:=Aside0.mk hr1_5
 have HC1_5:=Aside0.mk hc1_5
 clear hr1_5 hc1_5
 have HR1_6:=Aside0.mk hr1_6
 have HC1_6:=Aside0.mk hc1_6
 clear hr1_6 hc1_6
 have HB:=Aside0.mk (Below.refl w.heap.size w)
 have H : (if a0_0 = a1_0 then (if a0_1.toList = a1_1.toList then (if a0_2.toList = a1_2.toList then (if a0_3.toList = a1_3.toList then (if a0_4 = a1_4 then ((counterpaneref05_Same.f k l0_5 l1_5).bind fun t126 => (if t126 = true then ((counterpaneref05_Same.f k l0_6 l1_6).bind fun t127 => (some t127)) else (some false))) else (some false)) else (some false)) else (some false)) else (some false)) else (some false)) = some r:=h
 clear h
 by_cases c3 : a0_0 = a1_0
 ·rw [if_pos c3] at H
  have c3b0 : (a0_0 == a1_0) = true:=beq_iff_eq.mpr c3
  have c3b1 : (a0_0 != a1_0) = false:=bne_eq_false_iff_eq.mpr c3
  clear c3
  by_cases c4 : a0_1.toList = a1_1.toList
  ·rw [if_pos c4] at H
   have c4b0 : (a0_1.toList == a1_1.toList) = true:=beq_iff_eq.mpr c4
   have c4b1 : (a0_1.toList != a1_1.toList) = false:=bne_eq_false_iff_eq.mpr c4
   clear c4
   by_cases c5 : a0_2.toList = a1_2.toList
   ·rw [if_pos c5] at H
    have c5b0 : (a0_2.toList == a1_2.toList) = true:=beq_iff_eq.mpr c5
    have c5b1 : (a0_2.toList != a1_2.toList) = false:=bne_eq_false_iff_eq.mpr c5
    clear c5
    by_cases c6 : a0_3.toList = a1_3.toList
    ·rw [if_pos c6] at H
     have c6b0 : (a0_3.toList == a1_3.toList) = true:=beq_iff_eq.mpr c6
     have c6b1 : (a0_3.toList != a1_3.toList) = false:=bne_eq_false_iff_eq.mpr c6
     clear c6
     by_cases c7 : a0_4 = a1_4
     ·rw [if_pos c7] at H
      have c7b0 : (a0_4 == a1_4) = true:=beq_iff_eq.mpr c7
      have c7b1 : (a0_4 != a1_4) = false:=bne_eq_false_iff_eq.mpr c7
      clear c7
      replace H:=Option.bind_eq_some_iff.mp H
      obtain ⟨t126,A80,H⟩:=H
      replace H : (if t126 = true then ((counterpaneref05_Same.f k l0_6 l1_6).bind fun t127 => (some t127)) else (some false)) = some r:=H
      have A8:=Aside0.mk A80
      clear A80
      by_cases c9 : t126 = true
      ·subst c9
       have H1 : ((counterpaneref05_Same.f k l0_6 l1_6).bind fun t127 => (some t127)) = some r:=by rw [if_pos rfl] at H; exact H
       clear H
       have H:=H1
       clear H1
       replace H:=Option.bind_eq_some_iff.mp H
       obtain ⟨t127,A100,H⟩:=H
       replace H : (some t127) = some r:=H
       have A10:=Aside0.mk A100
       clear A100
       obtain rfl:=Option.some.inj H
       go_enter Tryd.func20,Tryd.ntmps20
       go_wp2_with (first | ((with_reducible refine gate_dst (N:=2) rfl ?_); refine box_event ?hg (N:=2) ?hd (cs:=#[.int .i64 a0_0,.string a0_1,.string a0_2,.string a0_3,.int .i64 a0_4,.slice A0_5 l0_5.length c0_5,.slice A0_6 l0_6.length c0_6]) (t:=24) ?hr ?_; (case hd => rfl); (case hg => rfl); (case hr => first | (go_simp; done) | (go_simp; rfl)); intro gb124 hg w11 hbox hb; have n0_:=Aside0.mk (below_step (by repeat (first | (with_reducible first | exact HB.out | apply below_alloc | apply pw_below_drewN | apply below_drew1) | exact HB.out)) hb); have n1_:=Aside0.mk (hbox); have n2_:=Aside0.mk ((by rw [hg]; exact (below_size (by repeat (first | (with_reducible first | exact HB.out | apply below_alloc | apply pw_below_drewN | apply below_drew1) | exact HB.out))) : w.heap.size ≤ gb124)); have n3_:=Aside0.mk ((by rw [hg]; exact (below_size (by repeat (first | (with_reducible first | exact HB.out | apply below_alloc | apply pw_below_drewN | apply below_drew1) | exact HB.out))) : w.heap.size ≤ gb124)); clear HB; have HB:=n0_; have BK124:=n1_; have GW124:=n2_; have GE124:=n3_; clear n0_ n1_ n2_ n3_; clear hb hbox hg) | ((with_reducible refine gate_dst (N:=3) rfl ?_); refine box_event ?hg (N:=3) ?hd (cs:=#[.int .i64 a1_0,.string a1_1,.string a1_2,.string a1_3,.int .i64 a1_4,.slice A1_5 l1_5.length c1_5,.slice A1_6 l1_6.length c1_6]) (t:=24) ?hr ?_; (case hd => rfl); (case hg => rfl); (case hr => first | (go_simp; done) | (go_simp; rfl)); intro gb125 hg w12 hbox hb; have n0_:=Aside0.mk (blk_below (g:=gb124) (o:=.cells #[.int .i64 a0_0,.string a0_1,.string a0_2,.string a0_3,.int .i64 a0_4,.slice A0_5 l0_5.length c0_5,.slice A0_6 l0_6.length c0_6] 24 (0,0)) (by (with_reducible repeat (first | refine blk_drewN ?_ _ | refine blk_drew ?_ | refine blk_alloc ?_ _)); exact BK124.out) hb); have n1_:=Aside0.mk (below_step (by repeat (first | (with_reducible first | exact HB.out | apply below_alloc | apply pw_below_drewN | apply below_drew1 | refine below_set ?_ GE124.out) | exact HB.out)) hb); have n2_:=Aside0.mk (hbox); have n3_:=Aside0.mk ((by rw [hg]; exact (below_size (by repeat (first | (with_reducible first | exact HB.out | apply below_alloc | apply pw_below_drewN | apply below_drew1 | refine below_set ?_ GE124.out) | exact HB.out))) : w.heap.size ≤ gb125)); have n4_:=Aside0.mk ((by rw [hg]; exact (below_size (by repeat (first | (with_reducible first | exact HB.out | apply below_alloc | apply pw_below_drewN | apply below_drew1 | refine below_set ?_ GE124.out) | exact HB.out))) : w.heap.size ≤ gb125)); have n5_:=Aside0.mk ((by rw [hg]; exact Nat.ne_of_lt (blk_lt (g:=gb124) (o:=.cells #[.int .i64 a0_0,.string a0_1,.string a0_2,.string a0_3,.int .i64 a0_4,.slice A0_5 l0_5.length c0_5,.slice A0_6 l0_6.length c0_6] 24 (0,0)) (by (with_reducible repeat (first | refine blk_drewN ?_ _ | refine blk_drew ?_ | refine blk_alloc ?_ _)); exact BK124.out)) : gb124 ≠ gb125)); have n6_:=Aside0.mk ((by rw [hg]; exact Nat.ne_of_gt (blk_lt (g:=gb124) (o:=.cells #[.int .i64 a0_0,.string a0_1,.string a0_2,.string a0_3,.int .i64 a0_4,.slice A0_5 l0_5.length c0_5,.slice A0_6 l0_6.length c0_6] 24 (0,0)) (by (with_reducible repeat (first | refine blk_drewN ?_ _ | refine blk_drew ?_ | refine blk_alloc ?_ _)); exact BK124.out)) : gb125 ≠ gb124)); clear BK124; clear HB; have BK124:=n0_; have HB:=n1_; have BK125:=n2_; have GW125:=n3_; have GE125:=n4_; have NB124_125:=n5_; have NB125_124:=n6_; clear n0_ n1_ n2_ n3_ n4_ n5_ n6_; clear hb hbox hg; have hnb13:=NB124_125.out; have hnc13:=NB125_124.out; have hcz14_0 : w12.cell? ⟨gb124,0,none⟩ = some (.int .i64 a0_0):=(blk_cell BK124.out 0).trans rfl; have hcz14_1 : w12.cell? ⟨gb124,1,none⟩ = some (.string a0_1):=(blk_cell BK124.out 1).trans rfl; have hcz14_2 : w12.cell? ⟨gb124,2,none⟩ = some (.string a0_2):=(blk_cell BK124.out 2).trans rfl; have hcz14_3 : w12.cell? ⟨gb124,3,none⟩ = some (.string a0_3):=(blk_cell BK124.out 3).trans rfl; have hcz14_4 : w12.cell? ⟨gb124,4,none⟩ = some (.int .i64 a0_4):=(blk_cell BK124.out 4).trans rfl; have hcz14_5 : w12.cell? ⟨gb124,5,none⟩ = some (.slice A0_5 l0_5.length c0_5):=(blk_cell BK124.out 5).trans rfl; have hcz14_6 : w12.cell? ⟨gb124,6,none⟩ = some (.slice A0_6 l0_6.length c0_6):=(blk_cell BK124.out 6).trans rfl; have hfz14_0:=blk_frozen BK124.out 0; have hfz14_1:=blk_frozen BK124.out 1; have hfz14_2:=blk_frozen BK124.out 2; have hfz14_3:=blk_frozen BK124.out 3; have hfz14_4:=blk_frozen BK124.out 4; have hfz14_5:=blk_frozen BK124.out 5; have hfz14_6:=blk_frozen BK124.out 6; have hcz15_0 : w12.cell? ⟨gb125,0,none⟩ = some (.int .i64 a1_0):=(blk_cell BK125.out 0).trans rfl; have hcz15_1 : w12.cell? ⟨gb125,1,none⟩ = some (.string a1_1):=(blk_cell BK125.out 1).trans rfl; have hcz15_2 : w12.cell? ⟨gb125,2,none⟩ = some (.string a1_2):=(blk_cell BK125.out 2).trans rfl; have hcz15_3 : w12.cell? ⟨gb125,3,none⟩ = some (.string a1_3):=(blk_cell BK125.out 3).trans rfl; have hcz15_4 : w12.cell? ⟨gb125,4,none⟩ = some (.int .i64 a1_4):=(blk_cell BK125.out 4).trans rfl; have hcz15_5 : w12.cell? ⟨gb125,5,none⟩ = some (.slice A1_5 l1_5.length c1_5):=(blk_cell BK125.out 5).trans rfl; have hcz15_6 : w12.cell? ⟨gb125,6,none⟩ = some (.slice A1_6 l1_6.length c1_6):=(blk_cell BK125.out 6).trans rfl; have hfz15_0:=blk_frozen BK125.out 0; have hfz15_1:=blk_frozen BK125.out 1; have hfz15_2:=blk_frozen BK125.out 2; have hfz15_3:=blk_frozen BK125.out 3; have hfz15_4:=blk_frozen BK125.out 4; have hfz15_5:=blk_frozen BK125.out 5; have hfz15_6:=blk_frozen BK125.out 6) | (go_at_call 50; (with_reducible refine (counterpaneref05_Same.calls k _ _ l0_5 _ _ l1_5 true _ ?side1 ?side2 ?side3 ?side4 A8.out).mono ?_); (case side1 => repeat (first | exact (Kd.C_below HR0_5.out HB.out) | (with_reducible refine Kd.C_alloc ?_ _) | (with_reducible refine Kd.C_drewN ?_ _) | (with_reducible refine Kd.C_drew ?_))); (case side2 => exact HC0_5.out); (case side3 => repeat (first | exact (Kd.C_below HR1_5.out HB.out) | (with_reducible refine Kd.C_alloc ?_ _) | (with_reducible refine Kd.C_drewN ?_ _) | (with_reducible refine Kd.C_drew ?_))); (case side4 => exact HC1_5.out); rintro e w' ⟨rfl,⟨nd,rfl⟩⟩) | (go_at_call 50; (with_reducible refine (counterpaneref05_Same.calls k _ _ l0_6 _ _ l1_6 t127 _ ?side1 ?side2 ?side3 ?side4 A10.out).mono ?_); (case side1 => repeat (first | exact (Kd.C_below HR0_6.out (by repeat (first | (with_reducible first | exact HB.out | apply below_alloc | apply pw_below_drewN | apply below_drew1 | refine below_set ?_ GE124.out | refine below_set ?_ GE125.out) | exact HB.out))) | (with_reducible refine Kd.C_alloc ?_ _) | (with_reducible refine Kd.C_drewN ?_ _) | (with_reducible refine Kd.C_drew ?_))); (case side2 => exact HC0_6.out); (case side3 => repeat (first | exact (Kd.C_below HR1_6.out (by repeat (first | (with_reducible first | exact HB.out | apply below_alloc | apply pw_below_drewN | apply below_drew1 | refine below_set ?_ GE124.out | refine below_set ?_ GE125.out) | exact HB.out))) | (with_reducible refine Kd.C_alloc ?_ _) | (with_reducible refine Kd.C_drewN ?_ _) | (with_reducible refine Kd.C_drew ?_))); (case side4 => exact HC1_6.out); rintro e w' ⟨rfl,⟨nd,rfl⟩⟩))
       go_ret
       exact ⟨by first | rfl | (simp [errW_none,errW_some] <;> rfl) | (simp [*,errW_none,errW_some] <;> rfl),by repeat (first | (with_reducible first | exact HB.out | apply below_alloc | apply pw_below_drewN | apply below_drew1 | refine below_set ?_ GE124.out | refine below_set ?_ GE125.out) | exact HB.out)⟩
      ·replace c9:=Bool.eq_false_iff.mpr c9
       subst c9
       have H1 : (some false) = some r:=by rw [if_neg (show ¬ (false = true) by decide)] at H; exact H
       clear H
       have H:=H1
       clear H1
       obtain rfl:=Option.some.inj H
       go_enter Tryd.func20,Tryd.ntmps20
       go_wp2_with (first | ((with_reducible refine gate_dst (N:=2) rfl ?_); refine box_event ?hg (N:=2) ?hd (cs:=#[.int .i64 a0_0,.string a0_1,.string a0_2,.string a0_3,.int .i64 a0_4,.slice A0_5 l0_5.length c0_5,.slice A0_6 l0_6.length c0_6]) (t:=24) ?hr ?_; (case hd => rfl); (case hg => rfl); (case hr => first | (go_simp; done) | (go_simp; rfl)); intro gb124 hg w16 hbox hb; have n0_:=Aside0.mk (below_step (by repeat (first | (with_reducible first | exact HB.out | apply below_alloc | apply pw_below_drewN | apply below_drew1) | exact HB.out)) hb); have n1_:=Aside0.mk (hbox); have n2_:=Aside0.mk ((by rw [hg]; exact (below_size (by repeat (first | (with_reducible first | exact HB.out | apply below_alloc | apply pw_below_drewN | apply below_drew1) | exact HB.out))) : w.heap.size ≤ gb124)); have n3_:=Aside0.mk ((by rw [hg]; exact (below_size (by repeat (first | (with_reducible first | exact HB.out | apply below_alloc | apply pw_below_drewN | apply below_drew1) | exact HB.out))) : w.heap.size ≤ gb124)); clear HB; have HB:=n0_; have BK124:=n1_; have GW124:=n2_; have GE124:=n3_; clear n0_ n1_ n2_ n3_; clear hb hbox hg) | ((with_reducible refine gate_dst (N:=3) rfl ?_); refine box_event ?hg (N:=3) ?hd (cs:=#[.int .i64 a1_0,.string a1_1,.string a1_2,.string a1_3,.int .i64 a1_4,.slice A1_5 l1_5.length c1_5,.slice A1_6 l1_6.length c1_6]) (t:=24) ?hr ?_; (case hd => rfl); (case hg => rfl); (case hr => first | (go_simp; done) | (go_simp; rfl)); intro gb125 hg w17 hbox hb; have n0_:=Aside0.mk (blk_below (g:=gb124) (o:=.cells #[.int .i64 a0_0,.string a0_1,.string a0_2,.string a0_3,.int .i64 a0_4,.slice A0_5 l0_5.length c0_5,.slice A0_6 l0_6.length c0_6] 24 (0,0)) (by (with_reducible repeat (first | refine blk_drewN ?_ _ | refine blk_drew ?_ | refine blk_alloc ?_ _)); exact BK124.out) hb); have n1_:=Aside0.mk (below_step (by repeat (first | (with_reducible first | exact HB.out | apply below_alloc | apply pw_below_drewN | apply below_drew1 | refine below_set ?_ GE124.out) | exact HB.out)) hb); have n2_:=Aside0.mk (hbox); have n3_:=Aside0.mk ((by rw [hg]; exact (below_size (by repeat (first | (with_reducible first | exact HB.out | apply below_alloc | apply pw_below_drewN | apply below_drew1 | refine below_set ?_ GE124.out) | exact HB.out))) : w.heap.size ≤ gb125)); have n4_:=Aside0.mk ((by rw [hg]; exact (below_size (by repeat (first | (with_reducible first | exact HB.out | apply below_alloc | apply pw_below_drewN | apply below_drew1 | refine below_set ?_ GE124.out) | exact HB.out))) : w.heap.size ≤ gb125)); have n5_:=Aside0.mk ((by rw [hg]; exact Nat.ne_of_lt (blk_lt (g:=gb124) (o:=.cells #[.int .i64 a0_0,.string a0_1,.string a0_2,.string a0_3,.int .i64 a0_4,.slice A0_5 l0_5.length c0_5,.slice A0_6 l0_6.length c0_6] 24 (0,0)) (by (with_reducible repeat (first | refine blk_drewN ?_ _ | refine blk_drew ?_ | refine blk_alloc ?_ _)); exact BK124.out)) : gb124 ≠ gb125)); have n6_:=Aside0.mk ((by rw [hg]; exact Nat.ne_of_gt (blk_lt (g:=gb124) (o:=.cells #[.int .i64 a0_0,.string a0_1,.string a0_2,.string a0_3,.int .i64 a0_4,.slice A0_5 l0_5.length c0_5,.slice A0_6 l0_6.length c0_6] 24 (0,0)) (by (with_reducible repeat (first | refine blk_drewN ?_ _ | refine blk_drew ?_ | refine blk_alloc ?_ _)); exact BK124.out)) : gb125 ≠ gb124)); clear BK124; clear HB; have BK124:=n0_; have HB:=n1_; have BK125:=n2_; have GW125:=n3_; have GE125:=n4_; have NB124_125:=n5_; have NB125_124:=n6_; clear n0_ n1_ n2_ n3_ n4_ n5_ n6_; clear hb hbox hg; have hnb18:=NB124_125.out; have hnc18:=NB125_124.out; have hcz19_0 : w17.cell? ⟨gb124,0,none⟩ = some (.int .i64 a0_0):=(blk_cell BK124.out 0).trans rfl; have hcz19_1 : w17.cell? ⟨gb124,1,none⟩ = some (.string a0_1):=(blk_cell BK124.out 1).trans rfl; have hcz19_2 : w17.cell? ⟨gb124,2,none⟩ = some (.string a0_2):=(blk_cell BK124.out 2).trans rfl; have hcz19_3 : w17.cell? ⟨gb124,3,none⟩ = some (.string a0_3):=(blk_cell BK124.out 3).trans rfl; have hcz19_4 : w17.cell? ⟨gb124,4,none⟩ = some (.int .i64 a0_4):=(blk_cell BK124.out 4).trans rfl; have hcz19_5 : w17.cell? ⟨gb124,5,none⟩ = some (.slice A0_5 l0_5.length c0_5):=(blk_cell BK124.out 5).trans rfl; have hcz19_6 : w17.cell? ⟨gb124,6,none⟩ = some (.slice A0_6 l0_6.length c0_6):=(blk_cell BK124.out 6).trans rfl; have hfz19_0:=blk_frozen BK124.out 0; have hfz19_1:=blk_frozen BK124.out 1; have hfz19_2:=blk_frozen BK124.out 2; have hfz19_3:=blk_frozen BK124.out 3; have hfz19_4:=blk_frozen BK124.out 4; have hfz19_5:=blk_frozen BK124.out 5; have hfz19_6:=blk_frozen BK124.out 6; have hcz20_0 : w17.cell? ⟨gb125,0,none⟩ = some (.int .i64 a1_0):=(blk_cell BK125.out 0).trans rfl; have hcz20_1 : w17.cell? ⟨gb125,1,none⟩ = some (.string a1_1):=(blk_cell BK125.out 1).trans rfl; have hcz20_2 : w17.cell? ⟨gb125,2,none⟩ = some (.string a1_2):=(blk_cell BK125.out 2).trans rfl; have hcz20_3 : w17.cell? ⟨gb125,3,none⟩ = some (.string a1_3):=(blk_cell BK125.out 3).trans rfl; have hcz20_4 : w17.cell? ⟨gb125,4,none⟩ = some (.int .i64 a1_4):=(blk_cell BK125.out 4).trans rfl; have hcz20_5 : w17.cell? ⟨gb125,5,none⟩ = some (.slice A1_5 l1_5.length c1_5):=(blk_cell BK125.out 5).trans rfl; have hcz20_6 : w17.cell? ⟨gb125,6,none⟩ = some (.slice A1_6 l1_6.length c1_6):=(blk_cell BK125.out 6).trans rfl; have hfz20_0:=blk_frozen BK125.out 0; have hfz20_1:=blk_frozen BK125.out 1; have hfz20_2:=blk_frozen BK125.out 2; have hfz20_3:=blk_frozen BK125.out 3; have hfz20_4:=blk_frozen BK125.out 4; have hfz20_5:=blk_frozen BK125.out 5; have hfz20_6:=blk_frozen BK125.out 6) | (go_at_call 50; (with_reducible refine (counterpaneref05_Same.calls k _ _ l0_5 _ _ l1_5 false _ ?side1 ?side2 ?side3 ?side4 A8.out).mono ?_); (case side1 => repeat (first | exact (Kd.C_below HR0_5.out HB.out) | (with_reducible refine Kd.C_alloc ?_ _) | (with_reducible refine Kd.C_drewN ?_ _) | (with_reducible refine Kd.C_drew ?_))); (case side2 => exact HC0_5.out); (case side3 => repeat (first | exact (Kd.C_below HR1_5.out HB.out) | (with_reducible refine Kd.C_alloc ?_ _) | (with_reducible refine Kd.C_drewN ?_ _) | (with_reducible refine Kd.C_drew ?_))); (case side4 => exact HC1_5.out); rintro e w' ⟨rfl,⟨nd,rfl⟩⟩))
       go_ret
       exact ⟨by first | rfl | (simp [errW_none,errW_some] <;> rfl) | (simp [*,errW_none,errW_some] <;> rfl),by repeat (first | (with_reducible first | exact HB.out | apply below_alloc | apply pw_below_drewN | apply below_drew1 | refine below_set ?_ GE124.out | refine below_set ?_ GE125.out) | exact HB.out)⟩
     ·rw [if_neg c7] at H
      have c7b0 : (a0_4 == a1_4) = false:=beq_eq_false_iff_ne.mpr c7
      have c7b1 : (a0_4 != a1_4) = true:=bne_iff_ne.mpr c7
      obtain rfl:=Option.some.inj H
      go_enter Tryd.func20,Tryd.ntmps20
      go_wp2_with (first | ((with_reducible refine gate_dst (N:=2) rfl ?_); refine box_event ?hg (N:=2) ?hd (cs:=#[.int .i64 a0_0,.string a0_1,.string a0_2,.string a0_3,.int .i64 a0_4,.slice A0_5 l0_5.length c0_5,.slice A0_6 l0_6.length c0_6]) (t:=24) ?hr ?_; (case hd => rfl); (case hg => rfl); (case hr => first | (go_simp; done) | (go_simp; rfl)); intro gb124 hg w21 hbox hb; have n0_:=Aside0.mk (below_step (by repeat (first | (with_reducible first | exact HB.out | apply below_alloc | apply pw_below_drewN | apply below_drew1) | exact HB.out)) hb); have n1_:=Aside0.mk (hbox); have n2_:=Aside0.mk ((by rw [hg]; exact (below_size (by repeat (first | (with_reducible first | exact HB.out | apply below_alloc | apply pw_below_drewN | apply below_drew1) | exact HB.out))) : w.heap.size ≤ gb124)); have n3_:=Aside0.mk ((by rw [hg]; exact (below_size (by repeat (first | (with_reducible first | exact HB.out | apply below_alloc | apply pw_below_drewN | apply below_drew1) | exact HB.out))) : w.heap.size ≤ gb124)); clear HB; have HB:=n0_; have BK124:=n1_; have GW124:=n2_; have GE124:=n3_; clear n0_ n1_ n2_ n3_; clear hb hbox hg) | ((with_reducible refine gate_dst (N:=3) rfl ?_); refine box_event ?hg (N:=3) ?hd (cs:=#[.int .i64 a1_0,.string a1_1,.string a1_2,.string a1_3,.int .i64 a1_4,.slice A1_5 l1_5.length c1_5,.slice A1_6 l1_6.length c1_6]) (t:=24) ?hr ?_; (case hd => rfl); (case hg => rfl); (case hr => first | (go_simp; done) | (go_simp; rfl)); intro gb125 hg w22 hbox hb; have n0_:=Aside0.mk (blk_below (g:=gb124) (o:=.cells #[.int .i64 a0_0,.string a0_1,.string a0_2,.string a0_3,.int .i64 a0_4,.slice A0_5 l0_5.length c0_5,.slice A0_6 l0_6.length c0_6] 24 (0,0)) (by (with_reducible repeat (first | refine blk_drewN ?_ _ | refine blk_drew ?_ | refine blk_alloc ?_ _)); exact BK124.out) hb); have n1_:=Aside0.mk (below_step (by repeat (first | (with_reducible first | exact HB.out | apply below_alloc | apply pw_below_drewN | apply below_drew1 | refine below_set ?_ GE124.out) | exact HB.out)) hb); have n2_:=Aside0.mk (hbox); have n3_:=Aside0.mk ((by rw [hg]; exact (below_size (by repeat (first | (with_reducible first | exact HB.out | apply below_alloc | apply pw_below_drewN | apply below_drew1 | refine below_set ?_ GE124.out) | exact HB.out))) : w.heap.size ≤ gb125)); have n4_:=Aside0.mk ((by rw [hg]; exact (below_size (by repeat (first | (with_reducible first | exact HB.out | apply below_alloc | apply pw_below_drewN | apply below_drew1 | refine below_set ?_ GE124.out) | exact HB.out))) : w.heap.size ≤ gb125)); have n5_:=Aside0.mk ((by rw [hg]; exact Nat.ne_of_lt (blk_lt (g:=gb124) (o:=.cells #[.int .i64 a0_0,.string a0_1,.string a0_2,.string a0_3,.int .i64 a0_4,.slice A0_5 l0_5.length c0_5,.slice A0_6 l0_6.length c0_6] 24 (0,0)) (by (with_reducible repeat (first | refine blk_drewN ?_ _ | refine blk_drew ?_ | refine blk_alloc ?_ _)); exact BK124.out)) : gb124 ≠ gb125)); have n6_:=Aside0.mk ((by rw [hg]; exact Nat.ne_of_gt (blk_lt (g:=gb124) (o:=.cells #[.int .i64 a0_0,.string a0_1,.string a0_2,.string a0_3,.int .i64 a0_4,.slice A0_5 l0_5.length c0_5,.slice A0_6 l0_6.length c0_6] 24 (0,0)) (by (with_reducible repeat (first | refine blk_drewN ?_ _ | refine blk_drew ?_ | refine blk_alloc ?_ _)); exact BK124.out)) : gb125 ≠ gb124)); clear BK124; clear HB; have BK124:=n0_; have HB:=n1_; have BK125:=n2_; have GW125:=n3_; have GE125:=n4_; have NB124_125:=n5_; have NB125_124:=n6_; clear n0_ n1_ n2_ n3_ n4_ n5_ n6_; clear hb hbox hg; have hnb23:=NB124_125.out; have hnc23:=NB125_124.out; have hcz24_0 : w22.cell? ⟨gb124,0,none⟩ = some (.int .i64 a0_0):=(blk_cell BK124.out 0).trans rfl; have hcz24_1 : w22.cell? ⟨gb124,1,none⟩ = some (.string a0_1):=(blk_cell BK124.out 1).trans rfl; have hcz24_2 : w22.cell? ⟨gb124,2,none⟩ = some (.string a0_2):=(blk_cell BK124.out 2).trans rfl; have hcz24_3 : w22.cell? ⟨gb124,3,none⟩ = some (.string a0_3):=(blk_cell BK124.out 3).trans rfl; have hcz24_4 : w22.cell? ⟨gb124,4,none⟩ = some (.int .i64 a0_4):=(blk_cell BK124.out 4).trans rfl; have hcz24_5 : w22.cell? ⟨gb124,5,none⟩ = some (.slice A0_5 l0_5.length c0_5):=(blk_cell BK124.out 5).trans rfl; have hcz24_6 : w22.cell? ⟨gb124,6,none⟩ = some (.slice A0_6 l0_6.length c0_6):=(blk_cell BK124.out 6).trans rfl; have hfz24_0:=blk_frozen BK124.out 0; have hfz24_1:=blk_frozen BK124.out 1; have hfz24_2:=blk_frozen BK124.out 2; have hfz24_3:=blk_frozen BK124.out 3; have hfz24_4:=blk_frozen BK124.out 4; have hfz24_5:=blk_frozen BK124.out 5; have hfz24_6:=blk_frozen BK124.out 6; have hcz25_0 : w22.cell? ⟨gb125,0,none⟩ = some (.int .i64 a1_0):=(blk_cell BK125.out 0).trans rfl; have hcz25_1 : w22.cell? ⟨gb125,1,none⟩ = some (.string a1_1):=(blk_cell BK125.out 1).trans rfl; have hcz25_2 : w22.cell? ⟨gb125,2,none⟩ = some (.string a1_2):=(blk_cell BK125.out 2).trans rfl; have hcz25_3 : w22.cell? ⟨gb125,3,none⟩ = some (.string a1_3):=(blk_cell BK125.out 3).trans rfl; have hcz25_4 : w22.cell? ⟨gb125,4,none⟩ = some (.int .i64 a1_4):=(blk_cell BK125.out 4).trans rfl; have hcz25_5 : w22.cell? ⟨gb125,5,none⟩ = some (.slice A1_5 l1_5.length c1_5):=(blk_cell BK125.out 5).trans rfl; have hcz25_6 : w22.cell? ⟨gb125,6,none⟩ = some (.slice A1_6 l1_6.length c1_6):=(blk_cell BK125.out 6).trans rfl; have hfz25_0:=blk_frozen BK125.out 0; have hfz25_1:=blk_frozen BK125.out 1; have hfz25_2:=blk_frozen BK125.out 2; have hfz25_3:=blk_frozen BK125.out 3; have hfz25_4:=blk_frozen BK125.out 4; have hfz25_5:=blk_frozen BK125.out 5; have hfz25_6:=blk_frozen BK125.out 6))
      go_ret
      exact ⟨by first | rfl | (simp [errW_none,errW_some] <;> rfl) | (simp [*,errW_none,errW_some] <;> rfl),by repeat (first | (with_reducible first | exact HB.out | apply below_alloc | apply pw_below_drewN | apply below_drew1 | refine below_set ?_ GE124.out | refine below_set ?_ GE125.out) | exact HB.out)⟩
    ·rw [if_neg c6] at H
     have c6b0 : (a0_3.toList == a1_3.toList) = false:=beq_eq_false_iff_ne.mpr c6
     have c6b1 : (a0_3.toList != a1_3.toList) = true:=bne_iff_ne.mpr c6
     obtain rfl:=Option.some.inj H
     go_enter Tryd.func20,Tryd.ntmps20
     go_wp2_with (first | ((with_reducible refine gate_dst (N:=2) rfl ?_); refine box_event ?hg (N:=2) ?hd (cs:=#[.int .i64 a0_0,.string a0_1,.string a0_2,.string a0_3,.int .i64 a0_4,.slice A0_5 l0_5.length c0_5,.slice A0_6 l0_6.length c0_6]) (t:=24) ?hr ?_; (case hd => rfl); (case hg => rfl); (case hr => first | (go_simp; done) | (go_simp; rfl)); intro gb124 hg w26 hbox hb; have n0_:=Aside0.mk (below_step (by repeat (first | (with_reducible first | exact HB.out | apply below_alloc | apply pw_below_drewN | apply below_drew1) | exact HB.out)) hb); have n1_:=Aside0.mk (hbox); have n2_:=Aside0.mk ((by rw [hg]; exact (below_size (by repeat (first | (with_reducible first | exact HB.out | apply below_alloc | apply pw_below_drewN | apply below_drew1) | exact HB.out))) : w.heap.size ≤ gb124)); have n3_:=Aside0.mk ((by rw [hg]; exact (below_size (by repeat (first | (with_reducible first | exact HB.out | apply below_alloc | apply pw_below_drewN | apply below_drew1) | exact HB.out))) : w.heap.size ≤ gb124)); clear HB; have HB:=n0_; have BK124:=n1_; have GW124:=n2_; have GE124:=n3_; clear n0_ n1_ n2_ n3_; clear hb hbox hg) | ((with_reducible refine gate_dst (N:=3) rfl ?_); refine box_event ?hg (N:=3) ?hd (cs:=#[.int .i64 a1_0,.string a1_1,.string a1_2,.string a1_3,.int .i64 a1_4,.slice A1_5 l1_5.length c1_5,.slice A1_6 l1_6.length c1_6]) (t:=24) ?hr ?_; (case hd => rfl); (case hg => rfl); (case hr => first | (go_simp; done) | (go_simp; rfl)); intro gb125 hg w27 hbox hb; have n0_:=Aside0.mk (blk_below (g:=gb124) (o:=.cells #[.int .i64 a0_0,.string a0_1,.string a0_2,.string a0_3,.int .i64 a0_4,.slice A0_5 l0_5.length c0_5,.slice A0_6 l0_6.length c0_6] 24 (0,0)) (by (with_reducible repeat (first | refine blk_drewN ?_ _ | refine blk_drew ?_ | refine blk_alloc ?_ _)); exact BK124.out) hb); have n1_:=Aside0.mk (below_step (by repeat (first | (with_reducible first | exact HB.out | apply below_alloc | apply pw_below_drewN | apply below_drew1 | refine below_set ?_ GE124.out) | exact HB.out)) hb); have n2_:=Aside0.mk (hbox); have n3_:=Aside0.mk ((by rw [hg]; exact (below_size (by repeat (first | (with_reducible first | exact HB.out | apply below_alloc | apply pw_below_drewN | apply below_drew1 | refine below_set ?_ GE124.out) | exact HB.out))) : w.heap.size ≤ gb125)); have n4_:=Aside0.mk ((by rw [hg]; exact (below_size (by repeat (first | (with_reducible first | exact HB.out | apply below_alloc | apply pw_below_drewN | apply below_drew1 | refine below_set ?_ GE124.out) | exact HB.out))) : w.heap.size ≤ gb125)); have n5_:=Aside0.mk ((by rw [hg]; exact Nat.ne_of_lt (blk_lt (g:=gb124) (o:=.cells #[.int .i64 a0_0,.string a0_1,.string a0_2,.string a0_3,.int .i64 a0_4,.slice A0_5 l0_5.length c0_5,.slice A0_6 l0_6.length c0_6] 24 (0,0)) (by (with_reducible repeat (first | refine blk_drewN ?_ _ | refine blk_drew ?_ | refine blk_alloc ?_ _)); exact BK124.out)) : gb124 ≠ gb125)); have n6_:=Aside0.mk ((by rw [hg]; exact Nat.ne_of_gt (blk_lt (g:=gb124) (o:=.cells #[.int .i64 a0_0,.string a0_1,.string a0_2,.string a0_3,.int .i64 a0_4,.slice A0_5 l0_5.length c0_5,.slice A0_6 l0_6.length c0_6] 24 (0,0)) (by (with_reducible repeat (first | refine blk_drewN ?_ _ | refine blk_drew ?_ | refine blk_alloc ?_ _)); exact BK124.out)) : gb125 ≠ gb124)); clear BK124; clear HB; have BK124:=n0_; have HB:=n1_; have BK125:=n2_; have GW125:=n3_; have GE125:=n4_; have NB124_125:=n5_; have NB125_124:=n6_; clear n0_ n1_ n2_ n3_ n4_ n5_ n6_; clear hb hbox hg; have hnb28:=NB124_125.out; have hnc28:=NB125_124.out; have hcz29_0 : w27.cell? ⟨gb124,0,none⟩ = some (.int .i64 a0_0):=(blk_cell BK124.out 0).trans rfl; have hcz29_1 : w27.cell? ⟨gb124,1,none⟩ = some (.string a0_1):=(blk_cell BK124.out 1).trans rfl; have hcz29_2 : w27.cell? ⟨gb124,2,none⟩ = some (.string a0_2):=(blk_cell BK124.out 2).trans rfl; have hcz29_3 : w27.cell? ⟨gb124,3,none⟩ = some (.string a0_3):=(blk_cell BK124.out 3).trans rfl; have hcz29_4 : w27.cell? ⟨gb124,4,none⟩ = some (.int .i64 a0_4):=(blk_cell BK124.out 4).trans rfl; have hcz29_5 : w27.cell? ⟨gb124,5,none⟩ = some (.slice A0_5 l0_5.length c0_5):=(blk_cell BK124.out 5).trans rfl; have hcz29_6 : w27.cell? ⟨gb124,6,none⟩ = some (.slice A0_6 l0_6.length c0_6):=(blk_cell BK124.out 6).trans rfl; have hfz29_0:=blk_frozen BK124.out 0; have hfz29_1:=blk_frozen BK124.out 1; have hfz29_2:=blk_frozen BK124.out 2; have hfz29_3:=blk_frozen BK124.out 3; have hfz29_4:=blk_frozen BK124.out 4; have hfz29_5:=blk_frozen BK124.out 5; have hfz29_6:=blk_frozen BK124.out 6; have hcz30_0 : w27.cell? ⟨gb125,0,none⟩ = some (.int .i64 a1_0):=(blk_cell BK125.out 0).trans rfl; have hcz30_1 : w27.cell? ⟨gb125,1,none⟩ = some (.string a1_1):=(blk_cell BK125.out 1).trans rfl; have hcz30_2 : w27.cell? ⟨gb125,2,none⟩ = some (.string a1_2):=(blk_cell BK125.out 2).trans rfl; have hcz30_3 : w27.cell? ⟨gb125,3,none⟩ = some (.string a1_3):=(blk_cell BK125.out 3).trans rfl; have hcz30_4 : w27.cell? ⟨gb125,4,none⟩ = some (.int .i64 a1_4):=(blk_cell BK125.out 4).trans rfl; have hcz30_5 : w27.cell? ⟨gb125,5,none⟩ = some (.slice A1_5 l1_5.length c1_5):=(blk_cell BK125.out 5).trans rfl; have hcz30_6 : w27.cell? ⟨gb125,6,none⟩ = some (.slice A1_6 l1_6.length c1_6):=(blk_cell BK125.out 6).trans rfl; have hfz30_0:=blk_frozen BK125.out 0; have hfz30_1:=blk_frozen BK125.out 1; have hfz30_2:=blk_frozen BK125.out 2; have hfz30_3:=blk_frozen BK125.out 3; have hfz30_4:=blk_frozen BK125.out 4; have hfz30_5:=blk_frozen BK125.out 5; have hfz30_6:=blk_frozen BK125.out 6))
     go_ret
     exact ⟨by first | rfl | (simp [errW_none,errW_some] <;> rfl) | (simp [*,errW_none,errW_some] <;> rfl),by repeat (first | (with_reducible first | exact HB.out | apply below_alloc | apply pw_below_drewN | apply below_drew1 | refine below_set ?_ GE124.out | refine below_set ?_ GE125.out) | exact HB.out)⟩
   ·rw [if_neg c5] at H
    have c5b0 : (a0_2.toList == a1_2.toList) = false:=beq_eq_false_iff_ne.mpr c5
    have c5b1 : (a0_2.toList != a1_2.toList) = true:=bne_iff_ne.mpr c5
    obtain rfl:=Option.some.inj H
    go_enter Tryd.func20,Tryd.ntmps20
    go_wp2_with (first | ((with_reducible refine gate_dst (N:=2) rfl ?_); refine box_event ?hg (N:=2) ?hd (cs:=#[.int .i64 a0_0,.string a0_1,.string a0_2,.string a0_3,.int .i64 a0_4,.slice A0_5 l0_5.length c0_5,.slice A0_6 l0_6.length c0_6]) (t:=24) ?hr ?_; (case hd => rfl); (case hg => rfl); (case hr => first | (go_simp; done) | (go_simp; rfl)); intro gb124 hg w31 hbox hb; have n0_:=Aside0.mk (below_step (by repeat (first | (with_reducible first | exact HB.out | apply below_alloc | apply pw_below_drewN | apply below_drew1) | exact HB.out)) hb); have n1_:=Aside0.mk (hbox); have n2_:=Aside0.mk ((by rw [hg]; exact (below_size (by repeat (first | (with_reducible first | exact HB.out | apply below_alloc | apply pw_below_drewN | apply below_drew1) | exact HB.out))) : w.heap.size ≤ gb124)); have n3_:=Aside0.mk ((by rw [hg]; exact (below_size (by repeat (first | (with_reducible first | exact HB.out | apply below_alloc | apply pw_below_drewN | apply below_drew1) | exact HB.out))) : w.heap.size ≤ gb124)); clear HB; have HB:=n0_; have BK124:=n1_; have GW124:=n2_; have GE124:=n3_; clear n0_ n1_ n2_ n3_; clear hb hbox hg) | ((with_reducible refine gate_dst (N:=3) rfl ?_); refine box_event ?hg (N:=3) ?hd (cs:=#[.int .i64 a1_0,.string a1_1,.string a1_2,.string a1_3,.int .i64 a1_4,.slice A1_5 l1_5.length c1_5,.slice A1_6 l1_6.length c1_6]) (t:=24) ?hr ?_; (case hd => rfl); (case hg => rfl); (case hr => first | (go_simp; done) | (go_simp; rfl)); intro gb125 hg w32 hbox hb; have n0_:=Aside0.mk (blk_below (g:=gb124) (o:=.cells #[.int .i64 a0_0,.string a0_1,.string a0_2,.string a0_3,.int .i64 a0_4,.slice A0_5 l0_5.length c0_5,.slice A0_6 l0_6.length c0_6] 24 (0,0)) (by (with_reducible repeat (first | refine blk_drewN ?_ _ | refine blk_drew ?_ | refine blk_alloc ?_ _)); exact BK124.out) hb); have n1_:=Aside0.mk (below_step (by repeat (first | (with_reducible first | exact HB.out | apply below_alloc | apply pw_below_drewN | apply below_drew1 | refine below_set ?_ GE124.out) | exact HB.out)) hb); have n2_:=Aside0.mk (hbox); have n3_:=Aside0.mk ((by rw [hg]; exact (below_size (by repeat (first | (with_reducible first | exact HB.out | apply below_alloc | apply pw_below_drewN | apply below_drew1 | refine below_set ?_ GE124.out) | exact HB.out))) : w.heap.size ≤ gb125)); have n4_:=Aside0.mk ((by rw [hg]; exact (below_size (by repeat (first | (with_reducible first | exact HB.out | apply below_alloc | apply pw_below_drewN | apply below_drew1 | refine below_set ?_ GE124.out) | exact HB.out))) : w.heap.size ≤ gb125)); have n5_:=Aside0.mk ((by rw [hg]; exact Nat.ne_of_lt (blk_lt (g:=gb124) (o:=.cells #[.int .i64 a0_0,.string a0_1,.string a0_2,.string a0_3,.int .i64 a0_4,.slice A0_5 l0_5.length c0_5,.slice A0_6 l0_6.length c0_6] 24 (0,0)) (by (with_reducible repeat (first | refine blk_drewN ?_ _ | refine blk_drew ?_ | refine blk_alloc ?_ _)); exact BK124.out)) : gb124 ≠ gb125)); have n6_:=Aside0.mk ((by rw [hg]; exact Nat.ne_of_gt (blk_lt (g:=gb124) (o:=.cells #[.int .i64 a0_0,.string a0_1,.string a0_2,.string a0_3,.int .i64 a0_4,.slice A0_5 l0_5.length c0_5,.slice A0_6 l0_6.length c0_6] 24 (0,0)) (by (with_reducible repeat (first | refine blk_drewN ?_ _ | refine blk_drew ?_ | refine blk_alloc ?_ _)); exact BK124.out)) : gb125 ≠ gb124)); clear BK124; clear HB; have BK124:=n0_; have HB:=n1_; have BK125:=n2_; have GW125:=n3_; have GE125:=n4_; have NB124_125:=n5_; have NB125_124:=n6_; clear n0_ n1_ n2_ n3_ n4_ n5_ n6_; clear hb hbox hg; have hnb33:=NB124_125.out; have hnc33:=NB125_124.out; have hcz34_0 : w32.cell? ⟨gb124,0,none⟩ = some (.int .i64 a0_0):=(blk_cell BK124.out 0).trans rfl; have hcz34_1 : w32.cell? ⟨gb124,1,none⟩ = some (.string a0_1):=(blk_cell BK124.out 1).trans rfl; have hcz34_2 : w32.cell? ⟨gb124,2,none⟩ = some (.string a0_2):=(blk_cell BK124.out 2).trans rfl; have hcz34_3 : w32.cell? ⟨gb124,3,none⟩ = some (.string a0_3):=(blk_cell BK124.out 3).trans rfl; have hcz34_4 : w32.cell? ⟨gb124,4,none⟩ = some (.int .i64 a0_4):=(blk_cell BK124.out 4).trans rfl; have hcz34_5 : w32.cell? ⟨gb124,5,none⟩ = some (.slice A0_5 l0_5.length c0_5):=(blk_cell BK124.out 5).trans rfl; have hcz34_6 : w32.cell? ⟨gb124,6,none⟩ = some (.slice A0_6 l0_6.length c0_6):=(blk_cell BK124.out 6).trans rfl; have hfz34_0:=blk_frozen BK124.out 0; have hfz34_1:=blk_frozen BK124.out 1; have hfz34_2:=blk_frozen BK124.out 2; have hfz34_3:=blk_frozen BK124.out 3; have hfz34_4:=blk_frozen BK124.out 4; have hfz34_5:=blk_frozen BK124.out 5; have hfz34_6:=blk_frozen BK124.out 6; have hcz35_0 : w32.cell? ⟨gb125,0,none⟩ = some (.int .i64 a1_0):=(blk_cell BK125.out 0).trans rfl; have hcz35_1 : w32.cell? ⟨gb125,1,none⟩ = some (.string a1_1):=(blk_cell BK125.out 1).trans rfl; have hcz35_2 : w32.cell? ⟨gb125,2,none⟩ = some (.string a1_2):=(blk_cell BK125.out 2).trans rfl; have hcz35_3 : w32.cell? ⟨gb125,3,none⟩ = some (.string a1_3):=(blk_cell BK125.out 3).trans rfl; have hcz35_4 : w32.cell? ⟨gb125,4,none⟩ = some (.int .i64 a1_4):=(blk_cell BK125.out 4).trans rfl; have hcz35_5 : w32.cell? ⟨gb125,5,none⟩ = some (.slice A1_5 l1_5.length c1_5):=(blk_cell BK125.out 5).trans rfl; have hcz35_6 : w32.cell? ⟨gb125,6,none⟩ = some (.slice A1_6 l1_6.length c1_6):=(blk_cell BK125.out 6).trans rfl; have hfz35_0:=blk_frozen BK125.out 0; have hfz35_1:=blk_frozen BK125.out 1; have hfz35_2:=blk_frozen BK125.out 2; have hfz35_3:=blk_frozen BK125.out 3; have hfz35_4:=blk_frozen BK125.out 4; have hfz35_5:=blk_frozen BK125.out 5; have hfz35_6:=blk_frozen BK125.out 6))
    go_ret
    exact ⟨by first | rfl | (simp [errW_none,errW_some] <;> rfl) | (simp [*,errW_none,errW_some] <;> rfl),by repeat (first | (with_reducible first | exact HB.out | apply below_alloc | apply pw_below_drewN | apply below_drew1 | refine below_set ?_ GE124.out | refine below_set ?_ GE125.out) | exact HB.out)⟩
  ·rw [if_neg c4] at H
   have c4b0 : (a0_1.toList == a1_1.toList) = false:=beq_eq_false_iff_ne.mpr c4
   have c4b1 : (a0_1.toList != a1_1.toList) = true:=bne_iff_ne.mpr c4
   obtain rfl:=Option.some.inj H
   go_enter Tryd.func20,Tryd.ntmps20
   go_wp2_with (first | ((with_reducible refine gate_dst (N:=2) rfl ?_); refine box_event ?hg (N:=2) ?hd (cs:=#[.int .i64 a0_0,.string a0_1,.string a0_2,.string a0_3,.int .i64 a0_4,.slice A0_5 l0_5.length c0_5,.slice A0_6 l0_6.length c0_6]) (t:=24) ?hr ?_; (case hd => rfl); (case hg => rfl); (case hr => first | (go_simp; done) | (go_simp; rfl)); intro gb124 hg w36 hbox hb; have n0_:=Aside0.mk (below_step (by repeat (first | (with_reducible first | exact HB.out | apply below_alloc | apply pw_below_drewN | apply below_drew1) | exact HB.out)) hb); have n1_:=Aside0.mk (hbox); have n2_:=Aside0.mk ((by rw [hg]; exact (below_size (by repeat (first | (with_reducible first | exact HB.out | apply below_alloc | apply pw_below_drewN | apply below_drew1) | exact HB.out))) : w.heap.size ≤ gb124)); have n3_:=Aside0.mk ((by rw [hg]; exact (below_size (by repeat (first | (with_reducible first | exact HB.out | apply below_alloc | apply pw_below_drewN | apply below_drew1) | exact HB.out))) : w.heap.size ≤ gb124)); clear HB; have HB:=n0_; have BK124:=n1_; have GW124:=n2_; have GE124:=n3_; clear n0_ n1_ n2_ n3_; clear hb hbox hg) | ((with_reducible refine gate_dst (N:=3) rfl ?_); refine box_event ?hg (N:=3) ?hd (cs:=#[.int .i64 a1_0,.string a1_1,.string a1_2,.string a1_3,.int .i64 a1_4,.slice A1_5 l1_5.length c1_5,.slice A1_6 l1_6.length c1_6]) (t:=24) ?hr ?_; (case hd => rfl); (case hg => rfl); (case hr => first | (go_simp; done) | (go_simp; rfl)); intro gb125 hg w37 hbox hb; have n0_:=Aside0.mk (blk_below (g:=gb124) (o:=.cells #[.int .i64 a0_0,.string a0_1,.string a0_2,.string a0_3,.int .i64 a0_4,.slice A0_5 l0_5.length c0_5,.slice A0_6 l0_6.length c0_6] 24 (0,0)) (by (with_reducible repeat (first | refine blk_drewN ?_ _ | refine blk_drew ?_ | refine blk_alloc ?_ _)); exact BK124.out) hb); have n1_:=Aside0.mk (below_step (by repeat (first | (with_reducible first | exact HB.out | apply below_alloc | apply pw_below_drewN | apply below_drew1 | refine below_set ?_ GE124.out) | exact HB.out)) hb); have n2_:=Aside0.mk (hbox); have n3_:=Aside0.mk ((by rw [hg]; exact (below_size (by repeat (first | (with_reducible first | exact HB.out | apply below_alloc | apply pw_below_drewN | apply below_drew1 | refine below_set ?_ GE124.out) | exact HB.out))) : w.heap.size ≤ gb125)); have n4_:=Aside0.mk ((by rw [hg]; exact (below_size (by repeat (first | (with_reducible first | exact HB.out | apply below_alloc | apply pw_below_drewN | apply below_drew1 | refine below_set ?_ GE124.out) | exact HB.out))) : w.heap.size ≤ gb125)); have n5_:=Aside0.mk ((by rw [hg]; exact Nat.ne_of_lt (blk_lt (g:=gb124) (o:=.cells #[.int .i64 a0_0,.string a0_1,.string a0_2,.string a0_3,.int .i64 a0_4,.slice A0_5 l0_5.length c0_5,.slice A0_6 l0_6.length c0_6] 24 (0,0)) (by (with_reducible repeat (first | refine blk_drewN ?_ _ | refine blk_drew ?_ | refine blk_alloc ?_ _)); exact BK124.out)) : gb124 ≠ gb125)); have n6_:=Aside0.mk ((by rw [hg]; exact Nat.ne_of_gt (blk_lt (g:=gb124) (o:=.cells #[.int .i64 a0_0,.string a0_1,.string a0_2,.string a0_3,.int .i64 a0_4,.slice A0_5 l0_5.length c0_5,.slice A0_6 l0_6.length c0_6] 24 (0,0)) (by (with_reducible repeat (first | refine blk_drewN ?_ _ | refine blk_drew ?_ | refine blk_alloc ?_ _)); exact BK124.out)) : gb125 ≠ gb124)); clear BK124; clear HB; have BK124:=n0_; have HB:=n1_; have BK125:=n2_; have GW125:=n3_; have GE125:=n4_; have NB124_125:=n5_; have NB125_124:=n6_; clear n0_ n1_ n2_ n3_ n4_ n5_ n6_; clear hb hbox hg; have hnb38:=NB124_125.out; have hnc38:=NB125_124.out; have hcz39_0 : w37.cell? ⟨gb124,0,none⟩ = some (.int .i64 a0_0):=(blk_cell BK124.out 0).trans rfl; have hcz39_1 : w37.cell? ⟨gb124,1,none⟩ = some (.string a0_1):=(blk_cell BK124.out 1).trans rfl; have hcz39_2 : w37.cell? ⟨gb124,2,none⟩ = some (.string a0_2):=(blk_cell BK124.out 2).trans rfl; have hcz39_3 : w37.cell? ⟨gb124,3,none⟩ = some (.string a0_3):=(blk_cell BK124.out 3).trans rfl; have hcz39_4 : w37.cell? ⟨gb124,4,none⟩ = some (.int .i64 a0_4):=(blk_cell BK124.out 4).trans rfl; have hcz39_5 : w37.cell? ⟨gb124,5,none⟩ = some (.slice A0_5 l0_5.length c0_5):=(blk_cell BK124.out 5).trans rfl; have hcz39_6 : w37.cell? ⟨gb124,6,none⟩ = some (.slice A0_6 l0_6.length c0_6):=(blk_cell BK124.out 6).trans rfl; have hfz39_0:=blk_frozen BK124.out 0; have hfz39_1:=blk_frozen BK124.out 1; have hfz39_2:=blk_frozen BK124.out 2; have hfz39_3:=blk_frozen BK124.out 3; have hfz39_4:=blk_frozen BK124.out 4; have hfz39_5:=blk_frozen BK124.out 5; have hfz39_6:=blk_frozen BK124.out 6; have hcz40_0 : w37.cell? ⟨gb125,0,none⟩ = some (.int .i64 a1_0):=(blk_cell BK125.out 0).trans rfl; have hcz40_1 : w37.cell? ⟨gb125,1,none⟩ = some (.string a1_1):=(blk_cell BK125.out 1).trans rfl; have hcz40_2 : w37.cell? ⟨gb125,2,none⟩ = some (.string a1_2):=(blk_cell BK125.out 2).trans rfl; have hcz40_3 : w37.cell? ⟨gb125,3,none⟩ = some (.string a1_3):=(blk_cell BK125.out 3).trans rfl; have hcz40_4 : w37.cell? ⟨gb125,4,none⟩ = some (.int .i64 a1_4):=(blk_cell BK125.out 4).trans rfl; have hcz40_5 : w37.cell? ⟨gb125,5,none⟩ = some (.slice A1_5 l1_5.length c1_5):=(blk_cell BK125.out 5).trans rfl; have hcz40_6 : w37.cell? ⟨gb125,6,none⟩ = some (.slice A1_6 l1_6.length c1_6):=(blk_cell BK125.out 6).trans rfl; have hfz40_0:=blk_frozen BK125.out 0; have hfz40_1:=blk_frozen BK125.out 1; have hfz40_2:=blk_frozen BK125.out 2; have hfz40_3:=blk_frozen BK125.out 3; have hfz40_4:=blk_frozen BK125.out 4; have hfz40_5:=blk_frozen BK125.out 5; have hfz40_6:=blk_frozen BK125.out 6))
   go_ret
   exact ⟨by first | rfl | (simp [errW_none,errW_some] <;> rfl) | (simp [*,errW_none,errW_some] <;> rfl),by repeat (first | (with_reducible first | exact HB.out | apply below_alloc | apply pw_below_drewN | apply below_drew1 | refine below_set ?_ GE124.out | refine below_set ?_ GE125.out) | exact HB.out)⟩
 ·rw [if_neg c3] at H
  have c3b0 : (a0_0 == a1_0) = false:=beq_eq_false_iff_ne.mpr c3
  have c3b1 : (a0_0 != a1_0) = true:=bne_iff_ne.mpr c3
  obtain rfl:=Option.some.inj H
  go_enter Tryd.func20,Tryd.ntmps20
  go_wp2_with (first | ((with_reducible refine gate_dst (N:=2) rfl ?_); refine box_event ?hg (N:=2) ?hd (cs:=#[.int .i64 a0_0,.string a0_1,.string a0_2,.string a0_3,.int .i64 a0_4,.slice A0_5 l0_5.length c0_5,.slice A0_6 l0_6.length c0_6]) (t:=24) ?hr ?_; (case hd => rfl); (case hg => rfl); (case hr => first | (go_simp; done) | (go_simp; rfl)); intro gb124 hg w41 hbox hb; have n0_:=Aside0.mk (below_step (by repeat (first | (with_reducible first | exact HB.out | apply below_alloc | apply pw_below_drewN | apply below_drew1) | exact HB.out)) hb); have n1_:=Aside0.mk (hbox); have n2_:=Aside0.mk ((by rw [hg]; exact (below_size (by repeat (first | (with_reducible first | exact HB.out | apply below_alloc | apply pw_below_drewN | apply below_drew1) | exact HB.out))) : w.heap.size ≤ gb124)); have n3_:=Aside0.mk ((by rw [hg]; exact (below_size (by repeat (first | (with_reducible first | exact HB.out | apply below_alloc | apply pw_below_drewN | apply below_drew1) | exact HB.out))) : w.heap.size ≤ gb124)); clear HB; have HB:=n0_; have BK124:=n1_; have GW124:=n2_; have GE124:=n3_; clear n0_ n1_ n2_ n3_; clear hb hbox hg) | ((with_reducible refine gate_dst (N:=3) rfl ?_); refine box_event ?hg (N:=3) ?hd (cs:=#[.int .i64 a1_0,.string a1_1,.string a1_2,.string a1_3,.int .i64 a1_4,.slice A1_5 l1_5.length c1_5,.slice A1_6 l1_6.length c1_6]) (t:=24) ?hr ?_; (case hd => rfl); (case hg => rfl); (case hr => first | (go_simp; done) | (go_simp; rfl)); intro gb125 hg w42 hbox hb; have n0_:=Aside0.mk (blk_below (g:=gb124) (o:=.cells #[.int .i64 a0_0,.string a0_1,.string a0_2,.string a0_3,.int .i64 a0_4,.slice A0_5 l0_5.length c0_5,.slice A0_6 l0_6.length c0_6] 24 (0,0)) (by (with_reducible repeat (first | refine blk_drewN ?_ _ | refine blk_drew ?_ | refine blk_alloc ?_ _)); exact BK124.out) hb); have n1_:=Aside0.mk (below_step (by repeat (first | (with_reducible first | exact HB.out | apply below_alloc | apply pw_below_drewN | apply below_drew1 | refine below_set ?_ GE124.out) | exact HB.out)) hb); have n2_:=Aside0.mk (hbox); have n3_:=Aside0.mk ((by rw [hg]; exact (below_size (by repeat (first | (with_reducible first | exact HB.out | apply below_alloc | apply pw_below_drewN | apply below_drew1 | refine below_set ?_ GE124.out) | exact HB.out))) : w.heap.size ≤ gb125)); have n4_:=Aside0.mk ((by rw [hg]; exact (below_size (by repeat (first | (with_reducible first | exact HB.out | apply below_alloc | apply pw_below_drewN | apply below_drew1 | refine below_set ?_ GE124.out) | exact HB.out))) : w.heap.size ≤ gb125)); have n5_:=Aside0.mk ((by rw [hg]; exact Nat.ne_of_lt (blk_lt (g:=gb124) (o:=.cells #[.int .i64 a0_0,.string a0_1,.string a0_2,.string a0_3,.int .i64 a0_4,.slice A0_5 l0_5.length c0_5,.slice A0_6 l0_6.length c0_6] 24 (0,0)) (by (with_reducible repeat (first | refine blk_drewN ?_ _ | refine blk_drew ?_ | refine blk_alloc ?_ _)); exact BK124.out)) : gb124 ≠ gb125)); have n6_:=Aside0.mk ((by rw [hg]; exact Nat.ne_of_gt (blk_lt (g:=gb124) (o:=.cells #[.int .i64 a0_0,.string a0_1,.string a0_2,.string a0_3,.int .i64 a0_4,.slice A0_5 l0_5.length c0_5,.slice A0_6 l0_6.length c0_6] 24 (0,0)) (by (with_reducible repeat (first | refine blk_drewN ?_ _ | refine blk_drew ?_ | refine blk_alloc ?_ _)); exact BK124.out)) : gb125 ≠ gb124)); clear BK124; clear HB; have BK124:=n0_; have HB:=n1_; have BK125:=n2_; have GW125:=n3_; have GE125:=n4_; have NB124_125:=n5_; have NB125_124:=n6_; clear n0_ n1_ n2_ n3_ n4_ n5_ n6_; clear hb hbox hg; have hnb43:=NB124_125.out; have hnc43:=NB125_124.out; have hcz44_0 : w42.cell? ⟨gb124,0,none⟩ = some (.int .i64 a0_0):=(blk_cell BK124.out 0).trans rfl; have hcz44_1 : w42.cell? ⟨gb124,1,none⟩ = some (.string a0_1):=(blk_cell BK124.out 1).trans rfl; have hcz44_2 : w42.cell? ⟨gb124,2,none⟩ = some (.string a0_2):=(blk_cell BK124.out 2).trans rfl; have hcz44_3 : w42.cell? ⟨gb124,3,none⟩ = some (.string a0_3):=(blk_cell BK124.out 3).trans rfl; have hcz44_4 : w42.cell? ⟨gb124,4,none⟩ = some (.int .i64 a0_4):=(blk_cell BK124.out 4).trans rfl; have hcz44_5 : w42.cell? ⟨gb124,5,none⟩ = some (.slice A0_5 l0_5.length c0_5):=(blk_cell BK124.out 5).trans rfl; have hcz44_6 : w42.cell? ⟨gb124,6,none⟩ = some (.slice A0_6 l0_6.length c0_6):=(blk_cell BK124.out 6).trans rfl; have hfz44_0:=blk_frozen BK124.out 0; have hfz44_1:=blk_frozen BK124.out 1; have hfz44_2:=blk_frozen BK124.out 2; have hfz44_3:=blk_frozen BK124.out 3; have hfz44_4:=blk_frozen BK124.out 4; have hfz44_5:=blk_frozen BK124.out 5; have hfz44_6:=blk_frozen BK124.out 6; have hcz45_0 : w42.cell? ⟨gb125,0,none⟩ = some (.int .i64 a1_0):=(blk_cell BK125.out 0).trans rfl; have hcz45_1 : w42.cell? ⟨gb125,1,none⟩ = some (.string a1_1):=(blk_cell BK125.out 1).trans rfl; have hcz45_2 : w42.cell? ⟨gb125,2,none⟩ = some (.string a1_2):=(blk_cell BK125.out 2).trans rfl; have hcz45_3 : w42.cell? ⟨gb125,3,none⟩ = some (.string a1_3):=(blk_cell BK125.out 3).trans rfl; have hcz45_4 : w42.cell? ⟨gb125,4,none⟩ = some (.int .i64 a1_4):=(blk_cell BK125.out 4).trans rfl; have hcz45_5 : w42.cell? ⟨gb125,5,none⟩ = some (.slice A1_5 l1_5.length c1_5):=(blk_cell BK125.out 5).trans rfl; have hcz45_6 : w42.cell? ⟨gb125,6,none⟩ = some (.slice A1_6 l1_6.length c1_6):=(blk_cell BK125.out 6).trans rfl; have hfz45_0:=blk_frozen BK125.out 0; have hfz45_1:=blk_frozen BK125.out 1; have hfz45_2:=blk_frozen BK125.out 2; have hfz45_3:=blk_frozen BK125.out 3; have hfz45_4:=blk_frozen BK125.out 4; have hfz45_5:=blk_frozen BK125.out 5; have hfz45_6:=blk_frozen BK125.out 6))
  go_ret
  exact ⟨by first | rfl | (simp [errW_none,errW_some] <;> rfl) | (simp [*,errW_none,errW_some] <;> rfl),by repeat (first | (with_reducible first | exact HB.out | apply below_alloc | apply pw_below_drewN | apply below_drew1 | refine below_set ?_ GE124.out | refine below_set ?_ GE125.out) | exact HB.out)⟩

/-! ### counterpaneref08_SameList: function 21 -/
def counterpaneref08_SameList.l0 : Nat → List (S24) → List (S24) → Int → Option (Bool)
 | 0,_,_,_ => none
 | k + 1,x0,x1,x5 => if x5 < (x0.length : Int) then (if 0 ≤ x5 then (if x5 < (x1.length : Int) then ((counterpaneref08_Same.f k ((rd_T24 x0 x5).f0) ((rd_T24 x0 x5).f1) ((rd_T24 x0 x5).f2) ((rd_T24 x0 x5).f3) ((rd_T24 x0 x5).f4) ((rd_T24 x0 x5).f5) ((rd_T24 x0 x5).f6) ((rd_T24 x1 x5).f0) ((rd_T24 x1 x5).f1) ((rd_T24 x1 x5).f2) ((rd_T24 x1 x5).f3) ((rd_T24 x1 x5).f4) ((rd_T24 x1 x5).f5) ((rd_T24 x1 x5).f6)).bind fun t130 => (if t130 = true then (counterpaneref08_SameList.l0 k x0 x1 (wrap64 (x5 + 1))) else (some false))) else (none)) else (none)) else (some true)
def counterpaneref08_SameList.f (k : Nat) (l0 : List (S24)) (l1 : List (S24)) : Option (Bool):=if (l0.length : Int) = (l1.length : Int) then (counterpaneref08_SameList.l0 k l0 l1 0) else (some false)
theorem counterpaneref08_SameList.mono_l : ∀ k,(∀ y0 y1 y2,LeO (counterpaneref08_SameList.l0 k y0 y1 y2) (counterpaneref08_SameList.l0 (k + 1) y0 y1 y2))
 | 0 => fun _ _ _ r h => by simp [counterpaneref08_SameList.l0] at h
 | k + 1 => by
  have ih0:=counterpaneref08_SameList.mono_l k
  ·intro y0 y1 y2
   unfold counterpaneref08_SameList.l0
   repeat' first
   | (with_reducible exact ih0 _ _ _)
   | (with_reducible exact counterpaneref08_Same.mono _ _ _ _ _ _ _ _ _ _ _ _ _ _ _)
   | (with_reducible exact LeO.refl _)
   | (with_reducible exact LeO.none _)
   | (with_reducible refine LeO.ite ?_ ?_)
   | (with_reducible refine LeO.bind ?_ (fun _ => ?_))
   | exact ih0 _ _ _
   | exact counterpaneref08_Same.mono _ _ _ _ _ _ _ _ _ _ _ _ _ _ _
   | exact LeO.none _
   | refine LeO.ite ?_ ?_
   | refine LeO.bind ?_ (fun _ => ?_)
theorem counterpaneref08_SameList.mono : ∀ a0 a1 k,LeO (counterpaneref08_SameList.f k a0 a1) (counterpaneref08_SameList.f (k + 1) a0 a1):=by
 intro a0 a1 k
 have ih0:=counterpaneref08_SameList.mono_l k
 unfold counterpaneref08_SameList.f
 repeat' first
   | (with_reducible exact ih0 _ _ _)
   | (with_reducible exact counterpaneref08_Same.mono _ _ _ _ _ _ _ _ _ _ _ _ _ _ _)
   | (with_reducible exact LeO.refl _)
   | (with_reducible exact LeO.none _)
   | (with_reducible refine LeO.ite ?_ ?_)
   | (with_reducible refine LeO.bind ?_ (fun _ => ?_))
   | exact ih0 _ _ _
   | exact counterpaneref08_Same.mono _ _ _ _ _ _ _ _ _ _ _ _ _ _ _
   | exact LeO.none _
   | refine LeO.ite ?_ ?_
   | refine LeO.bind ?_ (fun _ => ?_)
def counterpaneref08_SameList.T6 : Bool × List (List Nat × List Nat):=(true,[([],[]),([],[]),([0,1],[0,1]),([2],[2]),([],[]),([],[]),([4,5],[4,5]),([6],[6]),([3,7],[3,7]),([8],[8])])
def counterpaneref08_SameList.B6 : List Nat:=[0,0,3,7,0,0,48,112,255,511]
theorem counterpaneref08_SameList.tab6 : rtab .any (opsOf Tryd.f21 6) = counterpaneref08_SameList.T6:=by kernel_rfl
theorem counterpaneref08_SameList.bits6 : waitsOk counterpaneref08_SameList.T6.2 counterpaneref08_SameList.B6 = true:=by kernel_rfl
set_option maxHeartbeats 8000000 in
set_option maxRecDepth 100000 in
theorem counterpaneref08_SameList.calls (k : Nat) (A0 : Option Addr) (c0 : Nat) (l0 : List (S24)) (A1 : Option Addr) (c1 : Nat) (l1 : List (S24)) (r : Bool) (w : World) (hr0 : Kd.C k24 w A0 l0.length l0) (hc0 : l0.length ≤ c0) (hr1 : Kd.C k24 w A1 l1.length l1) (hc1 : l1.length ≤ c1) (h : counterpaneref08_SameList.f k l0 l1 = some r) :
  Calls Tryd.prog 21 #[.slice A0 l0.length c0,.slice A1 l1.length c1] w fun e w' => e = .returned (.bool r) ∧ Below w.heap.size w w':=by
 have hu24:=Tryd.underlying24
 have HR0:=Aside0.mk hr0
 have HC0:=Aside0.mk hc0
 clear hr0 hc0
 have HR1:=Aside0.mk hr1
 have HC1:=Aside0.mk hc1
 clear hr1 hc1
 have HB:=Aside0.mk (Below.refl w.heap.size w)
 have H : (if (l0.length : Int) = (l1.length : Int) then (counterpaneref08_SameList.l0 k l0 l1 0) else (some false)) = some r:=h
 clear h
 by_cases c3 : (l0.length : Int) = (l1.length : Int)
 ·rw [if_pos c3] at H
  have c3b0 : ((l0.length : Int) == (l1.length : Int)) = true:=beq_iff_eq.mpr c3
  have c3b1 : ((l0.length : Int) != (l1.length : Int)) = false:=bne_eq_false_iff_eq.mpr c3
  have c3b2 : (l0.length == l1.length) = true:=by first | simpa using c3 | (simp at c3 ⊢; omega)
  clear c3
  have H':=Aside0.mk H
  clear H
  go_enter Tryd.func21,Tryd.ntmps21
  go_wp2
  go_loopg [5] k (fun kq v5 w' => ∃ (x5_1 : Int),v5 = .int .i64 x5_1 ∧ Aside0 (counterpaneref08_SameList.l0 kq l0 l1 x5_1 = some r) ∧ Aside0 (kq ≤ k) ∧ Aside0 (Below w.heap.size w w'))
  case atStart => exact ⟨(0),(by first | rfl | (simp; done) | (simp [*]; done)),H',⟨Nat.le_refl _⟩,⟨by repeat (first | (with_reducible first | exact HB.out | apply below_alloc | apply pw_below_drewN | apply below_drew1) | exact HB.out)⟩⟩
  case round =>
   clear H'
   try clear c1
   try clear c2
   try clear p2
   try clear c3
   try clear c3b0
   try clear c3b1
   try clear c3b2
   obtain ⟨x5_1,rfl,HA,HK1,HB⟩:=hrel
   cases gk with
   | zero => exact absurd HA.out (by simp [counterpaneref08_SameList.l0])
   | succ k1 =>
    have H:=HA.out
    clear HA
    simp only [counterpaneref08_SameList.l0] at H
    by_cases c4 : x5_1 < (l0.length : Int)
    ·rw [if_pos c4] at H
     have c4b0 : decide (x5_1 < (l0.length : Int)) = true:=decide_eq_true c4
     clear c4
     by_cases c5 : 0 ≤ x5_1
     ·rw [if_pos c5] at H
      have c5b0 : decide (0 ≤ x5_1) = true:=decide_eq_true c5
      clear c5
      by_cases c6 : x5_1 < (l1.length : Int)
      ·rw [if_pos c6] at H
       have c6b0 : decide (x5_1 < (l1.length : Int)) = true:=decide_eq_true c6
       clear c6
       replace H:=Option.bind_eq_some_iff.mp H
       obtain ⟨t130,A70,H⟩:=H
       replace H : (if t130 = true then (counterpaneref08_SameList.l0 k1 l0 l1 (wrap64 (x5_1 + 1))) else (some false)) = some r:=H
       have A7:=Aside0.mk A70
       clear A70
       by_cases c8 : t130 = true
       ·subst c8
        have H1 : (counterpaneref08_SameList.l0 k1 l0 l1 (wrap64 (x5_1 + 1))) = some r:=by rw [if_pos rfl] at H; exact H
        clear H
        have H:=H1
        clear H1
        have H':=Aside0.mk H
        clear H
        try go_wp2
        have n0_:=Aside0.mk (below_drew1 HB.out)
        clear HB
        have HB:=n0_
        clear n0_
        have p128 : 0 ≤ (x5_1 : Int):=of_decide_eq_true (by first | (with_reducible assumption) | assumption)
        have q128 : x5_1 < (l0.length : Int):=of_decide_eq_true (by first | (with_reducible assumption) | assumption)
        obtain ⟨ad128,A128_5,c128_5,A128_6,c128_6,e128,hx128_0,hx128_1,hx128_2,hx128_3,hx128_4,hx128_5,hx128_6,hl128_5,hi128_5,hl128_6,hi128_6⟩:=at_T24 HR0.out x5_1 p128 q128
        have hw128_6:=hx128_6
        have hw128_5:=hx128_5
        have hw128_4:=hx128_4
        have hw128_3:=hx128_3
        have hw128_2:=hx128_2
        have hw128_1:=hx128_1
        have hw128_0:=hx128_0
        cases e128
        replace hx128_0:=(HB.out.cell (World.block_lt_of_cell? w _ hx128_0)).trans hx128_0
        replace hx128_1:=(HB.out.cell (World.block_lt_of_cell? w _ hx128_1)).trans hx128_1
        replace hx128_2:=(HB.out.cell (World.block_lt_of_cell? w _ hx128_2)).trans hx128_2
        replace hx128_3:=(HB.out.cell (World.block_lt_of_cell? w _ hx128_3)).trans hx128_3
        replace hx128_4:=(HB.out.cell (World.block_lt_of_cell? w _ hx128_4)).trans hx128_4
        replace hx128_5:=(HB.out.cell (World.block_lt_of_cell? w _ hx128_5)).trans hx128_5
        replace hx128_6:=(HB.out.cell (World.block_lt_of_cell? w _ hx128_6)).trans hx128_6
        have HR128_5:=Aside0.mk hi128_5
        have HC128_5:=Aside0.mk hl128_5
        clear hi128_5 hl128_5
        have HR128_6:=Aside0.mk hi128_6
        have HC128_6:=Aside0.mk hl128_6
        clear hi128_6 hl128_6
        replace p128:=eq_true p128
        replace q128:=eq_true q128
        have p129 : 0 ≤ (x5_1 : Int):=of_decide_eq_true (by first | (with_reducible assumption) | assumption)
        have q129 : x5_1 < (l1.length : Int):=of_decide_eq_true (by first | (with_reducible assumption) | assumption)
        obtain ⟨ad129,A129_5,c129_5,A129_6,c129_6,e129,hx129_0,hx129_1,hx129_2,hx129_3,hx129_4,hx129_5,hx129_6,hl129_5,hi129_5,hl129_6,hi129_6⟩:=at_T24 HR1.out x5_1 p129 q129
        have hw129_6:=hx129_6
        have hw129_5:=hx129_5
        have hw129_4:=hx129_4
        have hw129_3:=hx129_3
        have hw129_2:=hx129_2
        have hw129_1:=hx129_1
        have hw129_0:=hx129_0
        cases e129
        replace hx129_0:=(HB.out.cell (World.block_lt_of_cell? w _ hx129_0)).trans hx129_0
        replace hx129_1:=(HB.out.cell (World.block_lt_of_cell? w _ hx129_1)).trans hx129_1
        replace hx129_2:=(HB.out.cell (World.block_lt_of_cell? w _ hx129_2)).trans hx129_2
        replace hx129_3:=(HB.out.cell (World.block_lt_of_cell? w _ hx129_3)).trans hx129_3
        replace hx129_4:=(HB.out.cell (World.block_lt_of_cell? w _ hx129_4)).trans hx129_4
        replace hx129_5:=(HB.out.cell (World.block_lt_of_cell? w _ hx129_5)).trans hx129_5
        replace hx129_6:=(HB.out.cell (World.block_lt_of_cell? w _ hx129_6)).trans hx129_6
        have HR129_5:=Aside0.mk hi129_5
        have HC129_5:=Aside0.mk hl129_5
        clear hi129_5 hl129_5
        have HR129_6:=Aside0.mk hi129_6
        have HC129_6:=Aside0.mk hl129_6
        clear hi129_6 hl129_6
        replace p129:=eq_true p129
        replace q129:=eq_true q129
        refine start_ (n:=10) (S:=fun w' => w'.cell? (ad128.add ((x5_1).toNat * 7)) = some (.int .i64 ((rd_T24 l0 x5_1).f0)) ∧ w'.cell? ⟨(ad128.add ((x5_1).toNat * 7)).block,(ad128.add ((x5_1).toNat * 7)).off + 1,none⟩ = some (.string ((rd_T24 l0 x5_1).f1)) ∧ w'.cell? ⟨(ad128.add ((x5_1).toNat * 7)).block,(ad128.add ((x5_1).toNat * 7)).off + 2,none⟩ = some (.string ((rd_T24 l0 x5_1).f2)) ∧ w'.cell? ⟨(ad128.add ((x5_1).toNat * 7)).block,(ad128.add ((x5_1).toNat * 7)).off + 3,none⟩ = some (.string ((rd_T24 l0 x5_1).f3)) ∧ w'.cell? ⟨(ad128.add ((x5_1).toNat * 7)).block,(ad128.add ((x5_1).toNat * 7)).off + 4,none⟩ = some (.int .i64 ((rd_T24 l0 x5_1).f4)) ∧ w'.cell? ⟨(ad128.add ((x5_1).toNat * 7)).block,(ad128.add ((x5_1).toNat * 7)).off + 5,none⟩ = some (.slice A128_5 ((rd_T24 l0 x5_1).f5).length c128_5) ∧ w'.cell? ⟨(ad128.add ((x5_1).toNat * 7)).block,(ad128.add ((x5_1).toNat * 7)).off + 6,none⟩ = some (.slice A128_6 ((rd_T24 l0 x5_1).f6).length c128_6) ∧ w'.cell? (ad129.add ((x5_1).toNat * 7)) = some (.int .i64 ((rd_T24 l1 x5_1).f0)) ∧ w'.cell? ⟨(ad129.add ((x5_1).toNat * 7)).block,(ad129.add ((x5_1).toNat * 7)).off + 1,none⟩ = some (.string ((rd_T24 l1 x5_1).f1)) ∧ w'.cell? ⟨(ad129.add ((x5_1).toNat * 7)).block,(ad129.add ((x5_1).toNat * 7)).off + 2,none⟩ = some (.string ((rd_T24 l1 x5_1).f2)) ∧ w'.cell? ⟨(ad129.add ((x5_1).toNat * 7)).block,(ad129.add ((x5_1).toNat * 7)).off + 3,none⟩ = some (.string ((rd_T24 l1 x5_1).f3)) ∧ w'.cell? ⟨(ad129.add ((x5_1).toNat * 7)).block,(ad129.add ((x5_1).toNat * 7)).off + 4,none⟩ = some (.int .i64 ((rd_T24 l1 x5_1).f4)) ∧ w'.cell? ⟨(ad129.add ((x5_1).toNat * 7)).block,(ad129.add ((x5_1).toNat * 7)).off + 5,none⟩ = some (.slice A129_5 ((rd_T24 l1 x5_1).f5).length c129_5) ∧ w'.cell? ⟨(ad129.add ((x5_1).toNat * 7)).block,(ad129.add ((x5_1).toNat * 7)).off + 6,none⟩ = some (.slice A129_6 ((rd_T24 l1 x5_1).f6).length c129_6)) (ds:=[]) #[false,false,false,false,false,false,false,false,false,false] (by kernel_rfl) rfl rfl ⟨((HB.out.cell (World.block_lt_of_cell? w _ hw128_0)).trans hw128_0),((HB.out.cell (World.block_lt_of_cell? w _ hw128_1)).trans hw128_1),((HB.out.cell (World.block_lt_of_cell? w _ hw128_2)).trans hw128_2),((HB.out.cell (World.block_lt_of_cell? w _ hw128_3)).trans hw128_3),((HB.out.cell (World.block_lt_of_cell? w _ hw128_4)).trans hw128_4),((HB.out.cell (World.block_lt_of_cell? w _ hw128_5)).trans hw128_5),((HB.out.cell (World.block_lt_of_cell? w _ hw128_6)).trans hw128_6),((HB.out.cell (World.block_lt_of_cell? w _ hw129_0)).trans hw129_0),((HB.out.cell (World.block_lt_of_cell? w _ hw129_1)).trans hw129_1),((HB.out.cell (World.block_lt_of_cell? w _ hw129_2)).trans hw129_2),((HB.out.cell (World.block_lt_of_cell? w _ hw129_3)).trans hw129_3),((HB.out.cell (World.block_lt_of_cell? w _ hw129_4)).trans hw129_4),((HB.out.cell (World.block_lt_of_cell? w _ hw129_5)).trans hw129_5),((HB.out.cell (World.block_lt_of_cell? w _ hw129_6)).trans hw129_6)⟩ (fun hHeld => ?_); refine with_tabW counterpaneref08_SameList.tab6 counterpaneref08_SameList.bits6 (fun HT_ HW_ => ?_)
        generalize wr.drew = w9 at HB HR128_5 HR128_6 HR129_5 HR129_6 hx128_0 hx128_1 hx128_2 hx128_3 hx128_4 hx128_5 hx128_6 hx129_0 hx129_1 hx129_2 hx129_3 hx129_4 hx129_5 hx129_6 hHeld ⊢
        refine pure_ (i:=0) (N:=some 17) (v:=?_) (a':=?_) #[true,false,false,false,false,false,false,false,false,false] rfl rfl (any_of HT_.out (by kernel_rfl)) (fun _ _ _ h => h) (Or.inl ⟨by rfl,?_⟩) ?_ ?_
        rotate_left
        ·intro w'
         go_simp
         with_reducible rfl
        rotate_left
        ·simp only [Act.put,List.setIfInBounds_toArray,List.set_cons_zero,List.set_cons_succ,i64_w,i32_w]
         rfl
        refine pure_ (i:=1) (N:=some 18) (v:=?_) (a':=?_) #[true,true,false,false,false,false,false,false,false,false] rfl rfl (any_of HT_.out (by kernel_rfl)) (fun _ _ _ h => h) (Or.inl ⟨by rfl,?_⟩) ?_ ?_
        rotate_left
        ·intro w'
         go_simp
         with_reducible rfl
        rotate_left
        ·simp only [Act.put,List.setIfInBounds_toArray,List.set_cons_zero,List.set_cons_succ,i64_w,i32_w]
         rfl
        refine pure_ (i:=2) (N:=some 19) (v:=?_) (a':=?_) #[true,true,true,false,false,false,false,false,false,false] rfl rfl (any_of HT_.out (by kernel_rfl)) (fun _ _ _ h => h) (Or.inl ⟨by rfl,?_⟩) ?_ ?_
        rotate_left
        ·intro w'
         go_simp
         with_reducible rfl
        rotate_left
        ·simp only [Act.put,List.setIfInBounds_toArray,List.set_cons_zero,List.set_cons_succ,i64_w,i32_w]
         rfl
        refine pure_ (i:=4) (N:=some 21) (v:=?_) (a':=?_) #[true,true,true,false,true,false,false,false,false,false] rfl rfl (any_of HT_.out (by kernel_rfl)) (fun _ _ _ h => h) (Or.inl ⟨by rfl,?_⟩) ?_ ?_
        rotate_left
        ·intro w'
         go_simp
         with_reducible rfl
        rotate_left
        ·simp only [Act.put,List.setIfInBounds_toArray,List.set_cons_zero,List.set_cons_succ,i64_w,i32_w]
         rfl
        refine pure_ (i:=5) (N:=some 22) (v:=?_) (a':=?_) #[true,true,true,false,true,true,false,false,false,false] rfl rfl (any_of HT_.out (by kernel_rfl)) (fun _ _ _ h => h) (Or.inl ⟨by rfl,?_⟩) ?_ ?_
        rotate_left
        ·intro w'
         go_simp
         with_reducible rfl
        rotate_left
        ·simp only [Act.put,List.setIfInBounds_toArray,List.set_cons_zero,List.set_cons_succ,i64_w,i32_w]
         rfl
        refine pure_ (i:=6) (N:=some 23) (v:=?_) (a':=?_) #[true,true,true,false,true,true,true,false,false,false] rfl rfl (any_of HT_.out (by kernel_rfl)) (fun _ _ _ h => h) (Or.inl ⟨by rfl,?_⟩) ?_ ?_
        rotate_left
        ·intro w'
         go_simp
         with_reducible rfl
        rotate_left
        ·simp only [Act.put,List.setIfInBounds_toArray,List.set_cons_zero,List.set_cons_succ,i64_w,i32_w]
         rfl
        refine take_ (i:=3) (N:=some 20) (v:=?_) (a':=?_) #[true,true,true,true,true,true,true,false,false,false] rfl rfl (take_ofW HT_.out HW_.out (by kernel_rfl)) (fun _ _ _ h => h) (Or.inl ⟨by rfl,?_⟩) hHeld ?_ ?_
        rotate_left
        ·rintro w' ⟨s0,s1,s2,s3,s4,s5,s6,s7,s8,s9,s10,s11,s12,s13⟩
         go_simp
         with_reducible rfl
        rotate_left
        ·simp only [Act.put,List.setIfInBounds_toArray,List.set_cons_zero,List.set_cons_succ,i64_w,i32_w]
         rfl
        refine take_ (i:=7) (N:=some 24) (v:=?_) (a':=?_) #[true,true,true,true,true,true,true,true,false,false] rfl rfl (take_ofW HT_.out HW_.out (by kernel_rfl)) (fun _ _ _ h => h) (Or.inl ⟨by rfl,?_⟩) hHeld ?_ ?_
        rotate_left
        ·rintro w' ⟨s0,s1,s2,s3,s4,s5,s6,s7,s8,s9,s10,s11,s12,s13⟩
         go_simp
         with_reducible rfl
        rotate_left
        ·simp only [Act.put,List.setIfInBounds_toArray,List.set_cons_zero,List.set_cons_succ,i64_w,i32_w]
         rfl
        refine one_ (i:=8) (N:=some 25) #[true,true,true,true,true,true,true,true,true,false] rfl rfl (one_of HT_.out (by kernel_rfl)) (by decide) (fun K hK => ?_)
        refine goes_ Tryd.func20 (by kernel_rfl) rfl #[.agg #[.int .i64 ((rd_T24 l0 x5_1).f0),.string ((rd_T24 l0 x5_1).f1),.string ((rd_T24 l0 x5_1).f2),.string ((rd_T24 l0 x5_1).f3),.int .i64 ((rd_T24 l0 x5_1).f4),.slice A128_5 ((rd_T24 l0 x5_1).f5).length c128_5,.slice A128_6 ((rd_T24 l0 x5_1).f6).length c128_6],.agg #[.int .i64 ((rd_T24 l1 x5_1).f0),.string ((rd_T24 l1 x5_1).f1),.string ((rd_T24 l1 x5_1).f2),.string ((rd_T24 l1 x5_1).f3),.int .i64 ((rd_T24 l1 x5_1).f4),.slice A129_5 ((rd_T24 l1 x5_1).f5).length c129_5,.slice A129_6 ((rd_T24 l1 x5_1).f6).length c129_6]] (by rfl) rfl rfl (by (try simp only [List.map_toArray,List.map_cons,List.map_nil]); first | done | rfl | (simp only [List.length_drop,List.length_take]; rfl)) ?_
        with_reducible refine (counterpaneref08_Same.calls k1 ((rd_T24 l0 x5_1).f0) ((rd_T24 l0 x5_1).f1) ((rd_T24 l0 x5_1).f2) ((rd_T24 l0 x5_1).f3) ((rd_T24 l0 x5_1).f4) _ _ ((rd_T24 l0 x5_1).f5) _ _ ((rd_T24 l0 x5_1).f6) ((rd_T24 l1 x5_1).f0) ((rd_T24 l1 x5_1).f1) ((rd_T24 l1 x5_1).f2) ((rd_T24 l1 x5_1).f3) ((rd_T24 l1 x5_1).f4) _ _ ((rd_T24 l1 x5_1).f5) _ _ ((rd_T24 l1 x5_1).f6) true _ ?side1 ?side2 ?side3 ?side4 ?side5 ?side6 ?side7 ?side8 A7.out).mono ?_
        (case side1 => repeat (first | exact (Kd.C_below HR128_5.out HB.out) | (with_reducible refine Kd.C_alloc ?_ _) | (with_reducible refine Kd.C_drewN ?_ _) | (with_reducible refine Kd.C_drew ?_)))
        (case side2 => exact HC128_5.out)
        (case side3 => repeat (first | exact (Kd.C_below HR128_6.out HB.out) | (with_reducible refine Kd.C_alloc ?_ _) | (with_reducible refine Kd.C_drewN ?_ _) | (with_reducible refine Kd.C_drew ?_)))
        (case side4 => exact HC128_6.out)
        (case side5 => repeat (first | exact (Kd.C_below HR129_5.out HB.out) | (with_reducible refine Kd.C_alloc ?_ _) | (with_reducible refine Kd.C_drewN ?_ _) | (with_reducible refine Kd.C_drew ?_)))
        (case side6 => exact HC129_5.out)
        (case side7 => repeat (first | exact (Kd.C_below HR129_6.out HB.out) | (with_reducible refine Kd.C_alloc ?_ _) | (with_reducible refine Kd.C_drewN ?_ _) | (with_reducible refine Kd.C_drew ?_)))
        (case side8 => exact HC129_6.out)
        rintro e w10 ⟨rfl,hb⟩
        refine ⟨_,rfl,?_⟩
        have n0_:=Aside0.mk (below_step (by repeat (first | (with_reducible first | exact HB.out | apply below_alloc | apply pw_below_drewN | apply below_drew1) | exact HB.out)) hb)
        clear HB
        have HB:=n0_
        clear n0_
        (try clear hb)
        (try clear hb2)
        (try clear hk)
        (try clear hi)
        refine hK.out _ _ ⟨((HB.out.cell (World.block_lt_of_cell? w _ hw128_0)).trans hw128_0),((HB.out.cell (World.block_lt_of_cell? w _ hw128_1)).trans hw128_1),((HB.out.cell (World.block_lt_of_cell? w _ hw128_2)).trans hw128_2),((HB.out.cell (World.block_lt_of_cell? w _ hw128_3)).trans hw128_3),((HB.out.cell (World.block_lt_of_cell? w _ hw128_4)).trans hw128_4),((HB.out.cell (World.block_lt_of_cell? w _ hw128_5)).trans hw128_5),((HB.out.cell (World.block_lt_of_cell? w _ hw128_6)).trans hw128_6),((HB.out.cell (World.block_lt_of_cell? w _ hw129_0)).trans hw129_0),((HB.out.cell (World.block_lt_of_cell? w _ hw129_1)).trans hw129_1),((HB.out.cell (World.block_lt_of_cell? w _ hw129_2)).trans hw129_2),((HB.out.cell (World.block_lt_of_cell? w _ hw129_3)).trans hw129_3),((HB.out.cell (World.block_lt_of_cell? w _ hw129_4)).trans hw129_4),((HB.out.cell (World.block_lt_of_cell? w _ hw129_5)).trans hw129_5),((HB.out.cell (World.block_lt_of_cell? w _ hw129_6)).trans hw129_6)⟩ (fun hHeld => ?_)
        clear hK K
        refine norm_ (a':=?_) ?_ ?_
        rotate_left
        ·show Act.put _ (some 25) _ = _
         simp only [Act.put,List.setIfInBounds_toArray,List.set_cons_zero,List.set_cons_succ,i64_w,i32_w]
         rfl
        refine pure_ (i:=9) (N:=some 26) (v:=?_) (a':=?_) #[true,true,true,true,true,true,true,true,true,true] rfl rfl (any_of HT_.out (by kernel_rfl)) (fun _ _ _ h => h) (Or.inl ⟨by rfl,?_⟩) ?_ ?_
        rotate_left
        ·intro w'
         go_simp
         with_reducible rfl
        rotate_left
        ·simp only [Act.put,List.setIfInBounds_toArray,List.set_cons_zero,List.set_cons_succ,i64_w,i32_w]
         rfl
        refine done_ (done_of HT_.out (by kernel_rfl)) ?_
        try go_wp2
        go_roundg k1
        case measure => have:=HK1.out; omega
        case rel => exact ⟨(wrap64 (x5_1 + 1)),(by first | rfl | (simp; done) | (simp [*]; done)),H',⟨by have:=HK1.out; omega⟩,⟨by repeat (first | (with_reducible first | exact HB.out | apply below_alloc | apply pw_below_drewN | apply below_drew1) | exact HB.out)⟩⟩
       ·replace c8:=Bool.eq_false_iff.mpr c8
        subst c8
        have H1 : (some false) = some r:=by rw [if_neg (show ¬ (false = true) by decide)] at H; exact H
        clear H
        have H:=H1
        clear H1
        obtain rfl:=Option.some.inj H
        try go_wp2
        have n0_:=Aside0.mk (below_drew1 HB.out)
        clear HB
        have HB:=n0_
        clear n0_
        have p128 : 0 ≤ (x5_1 : Int):=of_decide_eq_true (by first | (with_reducible assumption) | assumption)
        have q128 : x5_1 < (l0.length : Int):=of_decide_eq_true (by first | (with_reducible assumption) | assumption)
        obtain ⟨ad128,A128_5,c128_5,A128_6,c128_6,e128,hx128_0,hx128_1,hx128_2,hx128_3,hx128_4,hx128_5,hx128_6,hl128_5,hi128_5,hl128_6,hi128_6⟩:=at_T24 HR0.out x5_1 p128 q128
        have hw128_6:=hx128_6
        have hw128_5:=hx128_5
        have hw128_4:=hx128_4
        have hw128_3:=hx128_3
        have hw128_2:=hx128_2
        have hw128_1:=hx128_1
        have hw128_0:=hx128_0
        cases e128
        replace hx128_0:=(HB.out.cell (World.block_lt_of_cell? w _ hx128_0)).trans hx128_0
        replace hx128_1:=(HB.out.cell (World.block_lt_of_cell? w _ hx128_1)).trans hx128_1
        replace hx128_2:=(HB.out.cell (World.block_lt_of_cell? w _ hx128_2)).trans hx128_2
        replace hx128_3:=(HB.out.cell (World.block_lt_of_cell? w _ hx128_3)).trans hx128_3
        replace hx128_4:=(HB.out.cell (World.block_lt_of_cell? w _ hx128_4)).trans hx128_4
        replace hx128_5:=(HB.out.cell (World.block_lt_of_cell? w _ hx128_5)).trans hx128_5
        replace hx128_6:=(HB.out.cell (World.block_lt_of_cell? w _ hx128_6)).trans hx128_6
        have HR128_5:=Aside0.mk hi128_5
        have HC128_5:=Aside0.mk hl128_5
        clear hi128_5 hl128_5
        have HR128_6:=Aside0.mk hi128_6
        have HC128_6:=Aside0.mk hl128_6
        clear hi128_6 hl128_6
        replace p128:=eq_true p128
        replace q128:=eq_true q128
        have p129 : 0 ≤ (x5_1 : Int):=of_decide_eq_true (by first | (with_reducible assumption) | assumption)
        have q129 : x5_1 < (l1.length : Int):=of_decide_eq_true (by first | (with_reducible assumption) | assumption)
        obtain ⟨ad129,A129_5,c129_5,A129_6,c129_6,e129,hx129_0,hx129_1,hx129_2,hx129_3,hx129_4,hx129_5,hx129_6,hl129_5,hi129_5,hl129_6,hi129_6⟩:=at_T24 HR1.out x5_1 p129 q129
        have hw129_6:=hx129_6
        have hw129_5:=hx129_5
        have hw129_4:=hx129_4
        have hw129_3:=hx129_3
        have hw129_2:=hx129_2
        have hw129_1:=hx129_1
        have hw129_0:=hx129_0
        cases e129
        replace hx129_0:=(HB.out.cell (World.block_lt_of_cell? w _ hx129_0)).trans hx129_0
        replace hx129_1:=(HB.out.cell (World.block_lt_of_cell? w _ hx129_1)).trans hx129_1
        replace hx129_2:=(HB.out.cell (World.block_lt_of_cell? w _ hx129_2)).trans hx129_2
        replace hx129_3:=(HB.out.cell (World.block_lt_of_cell? w _ hx129_3)).trans hx129_3
        replace hx129_4:=(HB.out.cell (World.block_lt_of_cell? w _ hx129_4)).trans hx129_4
        replace hx129_5:=(HB.out.cell (World.block_lt_of_cell? w _ hx129_5)).trans hx129_5
        replace hx129_6:=(HB.out.cell (World.block_lt_of_cell? w _ hx129_6)).trans hx129_6
        have HR129_5:=Aside0.mk hi129_5
        have HC129_5:=Aside0.mk hl129_5
        clear hi129_5 hl129_5
        have HR129_6:=Aside0.mk hi129_6
        have HC129_6:=Aside0.mk hl129_6
        clear hi129_6 hl129_6
        replace p129:=eq_true p129
        replace q129:=eq_true q129
        refine start_ (n:=10) (S:=fun w' => w'.cell? (ad128.add ((x5_1).toNat * 7)) = some (.int .i64 ((rd_T24 l0 x5_1).f0)) ∧ w'.cell? ⟨(ad128.add ((x5_1).toNat * 7)).block,(ad128.add ((x5_1).toNat * 7)).off + 1,none⟩ = some (.string ((rd_T24 l0 x5_1).f1)) ∧ w'.cell? ⟨(ad128.add ((x5_1).toNat * 7)).block,(ad128.add ((x5_1).toNat * 7)).off + 2,none⟩ = some (.string ((rd_T24 l0 x5_1).f2)) ∧ w'.cell? ⟨(ad128.add ((x5_1).toNat * 7)).block,(ad128.add ((x5_1).toNat * 7)).off + 3,none⟩ = some (.string ((rd_T24 l0 x5_1).f3)) ∧ w'.cell? ⟨(ad128.add ((x5_1).toNat * 7)).block,(ad128.add ((x5_1).toNat * 7)).off + 4,none⟩ = some (.int .i64 ((rd_T24 l0 x5_1).f4)) ∧ w'.cell? ⟨(ad128.add ((x5_1).toNat * 7)).block,(ad128.add ((x5_1).toNat * 7)).off + 5,none⟩ = some (.slice A128_5 ((rd_T24 l0 x5_1).f5).length c128_5) ∧ w'.cell? ⟨(ad128.add ((x5_1).toNat * 7)).block,(ad128.add ((x5_1).toNat * 7)).off + 6,none⟩ = some (.slice A128_6 ((rd_T24 l0 x5_1).f6).length c128_6) ∧ w'.cell? (ad129.add ((x5_1).toNat * 7)) = some (.int .i64 ((rd_T24 l1 x5_1).f0)) ∧ w'.cell? ⟨(ad129.add ((x5_1).toNat * 7)).block,(ad129.add ((x5_1).toNat * 7)).off + 1,none⟩ = some (.string ((rd_T24 l1 x5_1).f1)) ∧ w'.cell? ⟨(ad129.add ((x5_1).toNat * 7)).block,(ad129.add ((x5_1).toNat * 7)).off + 2,none⟩ = some (.string ((rd_T24 l1 x5_1).f2)) ∧ w'.cell? ⟨(ad129.add ((x5_1).toNat * 7)).block,(ad129.add ((x5_1).toNat * 7)).off + 3,none⟩ = some (.string ((rd_T24 l1 x5_1).f3)) ∧ w'.cell? ⟨(ad129.add ((x5_1).toNat * 7)).block,(ad129.add ((x5_1).toNat * 7)).off + 4,none⟩ = some (.int .i64 ((rd_T24 l1 x5_1).f4)) ∧ w'.cell? ⟨(ad129.add ((x5_1).toNat * 7)).block,(ad129.add ((x5_1).toNat * 7)).off + 5,none⟩ = some (.slice A129_5 ((rd_T24 l1 x5_1).f5).length c129_5) ∧ w'.cell? ⟨(ad129.add ((x5_1).toNat * 7)).block,(ad129.add ((x5_1).toNat * 7)).off + 6,none⟩ = some (.slice A129_6 ((rd_T24 l1 x5_1).f6).length c129_6)) (ds:=[]) #[false,false,false,false,false,false,false,false,false,false] (by kernel_rfl) rfl rfl ⟨((HB.out.cell (World.block_lt_of_cell? w _ hw128_0)).trans hw128_0),((HB.out.cell (World.block_lt_of_cell? w _ hw128_1)).trans hw128_1),((HB.out.cell (World.block_lt_of_cell? w _ hw128_2)).trans hw128_2),((HB.out.cell (World.block_lt_of_cell? w _ hw128_3)).trans hw128_3),((HB.out.cell (World.block_lt_of_cell? w _ hw128_4)).trans hw128_4),((HB.out.cell (World.block_lt_of_cell? w _ hw128_5)).trans hw128_5),((HB.out.cell (World.block_lt_of_cell? w _ hw128_6)).trans hw128_6),((HB.out.cell (World.block_lt_of_cell? w _ hw129_0)).trans hw129_0),((HB.out.cell (World.block_lt_of_cell? w _ hw129_1)).trans hw129_1),((HB.out.cell (World.block_lt_of_cell? w _ hw129_2)).trans hw129_2),((HB.out.cell (World.block_lt_of_cell? w _ hw129_3)).trans hw129_3),((HB.out.cell (World.block_lt_of_cell? w _ hw129_4)).trans hw129_4),((HB.out.cell (World.block_lt_of_cell? w _ hw129_5)).trans hw129_5),((HB.out.cell (World.block_lt_of_cell? w _ hw129_6)).trans hw129_6)⟩ (fun hHeld => ?_); refine with_tabW counterpaneref08_SameList.tab6 counterpaneref08_SameList.bits6 (fun HT_ HW_ => ?_)
        generalize wr.drew = w11 at HB HR128_5 HR128_6 HR129_5 HR129_6 hx128_0 hx128_1 hx128_2 hx128_3 hx128_4 hx128_5 hx128_6 hx129_0 hx129_1 hx129_2 hx129_3 hx129_4 hx129_5 hx129_6 hHeld ⊢
        refine pure_ (i:=0) (N:=some 17) (v:=?_) (a':=?_) #[true,false,false,false,false,false,false,false,false,false] rfl rfl (any_of HT_.out (by kernel_rfl)) (fun _ _ _ h => h) (Or.inl ⟨by rfl,?_⟩) ?_ ?_
        rotate_left
        ·intro w'
         go_simp
         with_reducible rfl
        rotate_left
        ·simp only [Act.put,List.setIfInBounds_toArray,List.set_cons_zero,List.set_cons_succ,i64_w,i32_w]
         rfl
        refine pure_ (i:=1) (N:=some 18) (v:=?_) (a':=?_) #[true,true,false,false,false,false,false,false,false,false] rfl rfl (any_of HT_.out (by kernel_rfl)) (fun _ _ _ h => h) (Or.inl ⟨by rfl,?_⟩) ?_ ?_
        rotate_left
        ·intro w'
         go_simp
         with_reducible rfl
        rotate_left
        ·simp only [Act.put,List.setIfInBounds_toArray,List.set_cons_zero,List.set_cons_succ,i64_w,i32_w]
         rfl
        refine pure_ (i:=2) (N:=some 19) (v:=?_) (a':=?_) #[true,true,true,false,false,false,false,false,false,false] rfl rfl (any_of HT_.out (by kernel_rfl)) (fun _ _ _ h => h) (Or.inl ⟨by rfl,?_⟩) ?_ ?_
        rotate_left
        ·intro w'
         go_simp
         with_reducible rfl
        rotate_left
        ·simp only [Act.put,List.setIfInBounds_toArray,List.set_cons_zero,List.set_cons_succ,i64_w,i32_w]
         rfl
        refine pure_ (i:=4) (N:=some 21) (v:=?_) (a':=?_) #[true,true,true,false,true,false,false,false,false,false] rfl rfl (any_of HT_.out (by kernel_rfl)) (fun _ _ _ h => h) (Or.inl ⟨by rfl,?_⟩) ?_ ?_
        rotate_left
        ·intro w'
         go_simp
         with_reducible rfl
        rotate_left
        ·simp only [Act.put,List.setIfInBounds_toArray,List.set_cons_zero,List.set_cons_succ,i64_w,i32_w]
         rfl
        refine pure_ (i:=5) (N:=some 22) (v:=?_) (a':=?_) #[true,true,true,false,true,true,false,false,false,false] rfl rfl (any_of HT_.out (by kernel_rfl)) (fun _ _ _ h => h) (Or.inl ⟨by rfl,?_⟩) ?_ ?_
        rotate_left
        ·intro w'
         go_simp
         with_reducible rfl
        rotate_left
        ·simp only [Act.put,List.setIfInBounds_toArray,List.set_cons_zero,List.set_cons_succ,i64_w,i32_w]
         rfl
        refine pure_ (i:=6) (N:=some 23) (v:=?_) (a':=?_) #[true,true,true,false,true,true,true,false,false,false] rfl rfl (any_of HT_.out (by kernel_rfl)) (fun _ _ _ h => h) (Or.inl ⟨by rfl,?_⟩) ?_ ?_
        rotate_left
        ·intro w'
         go_simp
         with_reducible rfl
        rotate_left
        ·simp only [Act.put,List.setIfInBounds_toArray,List.set_cons_zero,List.set_cons_succ,i64_w,i32_w]
         rfl
        refine take_ (i:=3) (N:=some 20) (v:=?_) (a':=?_) #[true,true,true,true,true,true,true,false,false,false] rfl rfl (take_ofW HT_.out HW_.out (by kernel_rfl)) (fun _ _ _ h => h) (Or.inl ⟨by rfl,?_⟩) hHeld ?_ ?_
        rotate_left
        ·rintro w' ⟨s0,s1,s2,s3,s4,s5,s6,s7,s8,s9,s10,s11,s12,s13⟩
         go_simp
         with_reducible rfl
        rotate_left
        ·simp only [Act.put,List.setIfInBounds_toArray,List.set_cons_zero,List.set_cons_succ,i64_w,i32_w]
         rfl
        refine take_ (i:=7) (N:=some 24) (v:=?_) (a':=?_) #[true,true,true,true,true,true,true,true,false,false] rfl rfl (take_ofW HT_.out HW_.out (by kernel_rfl)) (fun _ _ _ h => h) (Or.inl ⟨by rfl,?_⟩) hHeld ?_ ?_
        rotate_left
        ·rintro w' ⟨s0,s1,s2,s3,s4,s5,s6,s7,s8,s9,s10,s11,s12,s13⟩
         go_simp
         with_reducible rfl
        rotate_left
        ·simp only [Act.put,List.setIfInBounds_toArray,List.set_cons_zero,List.set_cons_succ,i64_w,i32_w]
         rfl
        refine one_ (i:=8) (N:=some 25) #[true,true,true,true,true,true,true,true,true,false] rfl rfl (one_of HT_.out (by kernel_rfl)) (by decide) (fun K hK => ?_)
        refine goes_ Tryd.func20 (by kernel_rfl) rfl #[.agg #[.int .i64 ((rd_T24 l0 x5_1).f0),.string ((rd_T24 l0 x5_1).f1),.string ((rd_T24 l0 x5_1).f2),.string ((rd_T24 l0 x5_1).f3),.int .i64 ((rd_T24 l0 x5_1).f4),.slice A128_5 ((rd_T24 l0 x5_1).f5).length c128_5,.slice A128_6 ((rd_T24 l0 x5_1).f6).length c128_6],.agg #[.int .i64 ((rd_T24 l1 x5_1).f0),.string ((rd_T24 l1 x5_1).f1),.string ((rd_T24 l1 x5_1).f2),.string ((rd_T24 l1 x5_1).f3),.int .i64 ((rd_T24 l1 x5_1).f4),.slice A129_5 ((rd_T24 l1 x5_1).f5).length c129_5,.slice A129_6 ((rd_T24 l1 x5_1).f6).length c129_6]] (by rfl) rfl rfl (by (try simp only [List.map_toArray,List.map_cons,List.map_nil]); first | done | rfl | (simp only [List.length_drop,List.length_take]; rfl)) ?_
        with_reducible refine (counterpaneref08_Same.calls k1 ((rd_T24 l0 x5_1).f0) ((rd_T24 l0 x5_1).f1) ((rd_T24 l0 x5_1).f2) ((rd_T24 l0 x5_1).f3) ((rd_T24 l0 x5_1).f4) _ _ ((rd_T24 l0 x5_1).f5) _ _ ((rd_T24 l0 x5_1).f6) ((rd_T24 l1 x5_1).f0) ((rd_T24 l1 x5_1).f1) ((rd_T24 l1 x5_1).f2) ((rd_T24 l1 x5_1).f3) ((rd_T24 l1 x5_1).f4) _ _ ((rd_T24 l1 x5_1).f5) _ _ ((rd_T24 l1 x5_1).f6) false _ ?side1 ?side2 ?side3 ?side4 ?side5 ?side6 ?side7 ?side8 A7.out).mono ?_
        (case side1 => repeat (first | exact (Kd.C_below HR128_5.out HB.out) | (with_reducible refine Kd.C_alloc ?_ _) | (with_reducible refine Kd.C_drewN ?_ _) | (with_reducible refine Kd.C_drew ?_)))
        (case side2 => exact HC128_5.out)
        (case side3 => repeat (first | exact (Kd.C_below HR128_6.out HB.out) | (with_reducible refine Kd.C_alloc ?_ _) | (with_reducible refine Kd.C_drewN ?_ _) | (with_reducible refine Kd.C_drew ?_)))
        (case side4 => exact HC128_6.out)
        (case side5 => repeat (first | exact (Kd.C_below HR129_5.out HB.out) | (with_reducible refine Kd.C_alloc ?_ _) | (with_reducible refine Kd.C_drewN ?_ _) | (with_reducible refine Kd.C_drew ?_)))
        (case side6 => exact HC129_5.out)
        (case side7 => repeat (first | exact (Kd.C_below HR129_6.out HB.out) | (with_reducible refine Kd.C_alloc ?_ _) | (with_reducible refine Kd.C_drewN ?_ _) | (with_reducible refine Kd.C_drew ?_)))
        (case side8 => exact HC129_6.out)
        rintro e w12 ⟨rfl,hb⟩
        refine ⟨_,rfl,?_⟩
        have n0_:=Aside0.mk (below_step (by repeat (first | (with_reducible first | exact HB.out | apply below_alloc | apply pw_below_drewN | apply below_drew1) | exact HB.out)) hb)
        clear HB
        have HB:=n0_
        clear n0_
        (try clear hb)
        (try clear hb2)
        (try clear hk)
        (try clear hi)
        refine hK.out _ _ ⟨((HB.out.cell (World.block_lt_of_cell? w _ hw128_0)).trans hw128_0),((HB.out.cell (World.block_lt_of_cell? w _ hw128_1)).trans hw128_1),((HB.out.cell (World.block_lt_of_cell? w _ hw128_2)).trans hw128_2),((HB.out.cell (World.block_lt_of_cell? w _ hw128_3)).trans hw128_3),((HB.out.cell (World.block_lt_of_cell? w _ hw128_4)).trans hw128_4),((HB.out.cell (World.block_lt_of_cell? w _ hw128_5)).trans hw128_5),((HB.out.cell (World.block_lt_of_cell? w _ hw128_6)).trans hw128_6),((HB.out.cell (World.block_lt_of_cell? w _ hw129_0)).trans hw129_0),((HB.out.cell (World.block_lt_of_cell? w _ hw129_1)).trans hw129_1),((HB.out.cell (World.block_lt_of_cell? w _ hw129_2)).trans hw129_2),((HB.out.cell (World.block_lt_of_cell? w _ hw129_3)).trans hw129_3),((HB.out.cell (World.block_lt_of_cell? w _ hw129_4)).trans hw129_4),((HB.out.cell (World.block_lt_of_cell? w _ hw129_5)).trans hw129_5),((HB.out.cell (World.block_lt_of_cell? w _ hw129_6)).trans hw129_6)⟩ (fun hHeld => ?_)
        clear hK K
        refine norm_ (a':=?_) ?_ ?_
        rotate_left
        ·show Act.put _ (some 25) _ = _
         simp only [Act.put,List.setIfInBounds_toArray,List.set_cons_zero,List.set_cons_succ,i64_w,i32_w]
         rfl
        refine pure_ (i:=9) (N:=some 26) (v:=?_) (a':=?_) #[true,true,true,true,true,true,true,true,true,true] rfl rfl (any_of HT_.out (by kernel_rfl)) (fun _ _ _ h => h) (Or.inl ⟨by rfl,?_⟩) ?_ ?_
        rotate_left
        ·intro w'
         go_simp
         with_reducible rfl
        rotate_left
        ·simp only [Act.put,List.setIfInBounds_toArray,List.set_cons_zero,List.set_cons_succ,i64_w,i32_w]
         rfl
        refine done_ (done_of HT_.out (by kernel_rfl)) ?_
        try go_wp2
        go_ret
        exact ⟨by first | rfl | (simp [errW_none,errW_some] <;> rfl) | (simp [*,errW_none,errW_some] <;> rfl),by repeat (first | (with_reducible first | exact HB.out | apply below_alloc | apply pw_below_drewN | apply below_drew1) | exact HB.out)⟩
      ·rw [if_neg c6] at H
       exact absurd H (by simp)
     ·rw [if_neg c5] at H
      exact absurd H (by simp)
    ·rw [if_neg c4] at H
     have c4b0 : decide (x5_1 < (l0.length : Int)) = false:=decide_eq_false c4
     clear c4
     obtain rfl:=Option.some.inj H
     go_wp2
     go_ret
     exact ⟨by first | rfl | (simp [errW_none,errW_some] <;> rfl) | (simp [*,errW_none,errW_some] <;> rfl),by repeat (first | (with_reducible first | exact HB.out | apply below_alloc | apply pw_below_drewN | apply below_drew1) | exact HB.out)⟩
 ·rw [if_neg c3] at H
  have c3b0 : ((l0.length : Int) == (l1.length : Int)) = false:=beq_eq_false_iff_ne.mpr c3
  have c3b1 : ((l0.length : Int) != (l1.length : Int)) = true:=bne_iff_ne.mpr c3
  have c3b2 : (l0.length == l1.length) = false:=by first | simpa using c3 | (simp at c3 ⊢; omega)
  obtain rfl:=Option.some.inj H
  go_enter Tryd.func21,Tryd.ntmps21
  go_wp2
  go_ret
  exact ⟨by first | rfl | (simp [errW_none,errW_some] <;> rfl) | (simp [*,errW_none,errW_some] <;> rfl),by repeat (first | (with_reducible first | exact HB.out | apply below_alloc | apply pw_below_drewN | apply below_drew1) | exact HB.out)⟩

end Go.Proofs.YthhohbidjhcjeaaDoor.Q
