/- Printed by a program of this place out of the translation: what the functions compute, and their contracts. -/
import Derived.Test.YthhohbidjhcjeaaGreatDoorBM1
import Derived.Test.YthhohbidjhcjeaaGreatDoorBM6
import Derived.Test.YthhohbidjhcjeaaGreatDoorBM8
import Derived.WalkKit
import Derived.Test.YthhohbidjhcjeaaGreatDoorBM3
import Derived.Laws.Strings3
import Derived.Laws.EntriesVeiled
import Derived.Test.YthhohbidjhcjeaaGreatDoorBM4
namespace Go.Proofs.YthhohbidjhcjeaaGreatDoor.Q
open Go.RowKit Go.Proofs.YthhohbidjhcjeaaGreatDoorW.PrintWords Go.Proofs.YthhohbidjhcjeaaGreatDoorW.PrintLast Go.Proofs.YthhohbidjhcjeaaGreatDoorW.PrintMore
attribute [local go_sem] max2_int min2_int max_two min_two max_three min_three max_four min_four   -- for this text's walks alone
set_option linter.unusedVariables false
set_option linter.unusedSimpArgs false

/-! ### commute_apart: function 106 -/
mutual
def commute_apart.l0 : Nat → List ByteArray → List ByteArray → Int → Int → Option (Bool)
 | 0,_,_,_,_ => none
 | k + 1,x1,x9,x10,x11 => if x11 < x10 then (if 0 ≤ x11 then (if x11 < (x9.length : Int) then (commute_apart.l1 k x1 (rdOf ByteArray.empty x9 x11) x9 x10 x11 x1 (x1.length : Int) 0) else (none)) else (none)) else (some true)
def commute_apart.l1 : Nat → List ByteArray → ByteArray → List ByteArray → Int → Int → List ByteArray → Int → Int → Option (Bool)
 | 0,_,_,_,_,_,_,_,_ => none
 | k + 1,x1,x6,x9,x10,x11,x15,x16,x17 => if x17 < x16 then (if 0 ≤ x17 then (if x17 < (x15.length : Int) then ((path_Apart.f x6 (rdOf ByteArray.empty x15 x17)).bind fun t172 => (if t172 = true then (commute_apart.l1 k x1 x6 x9 x10 x11 x15 x16 (wrap64 (x17 + 1))) else (some false))) else (none)) else (none)) else (commute_apart.l0 k x1 x9 x10 (wrap64 (x11 + 1)))
end
def commute_apart.f (k : Nat) (l0 : List ByteArray) (l1 : List ByteArray) : Option (Bool):=commute_apart.l0 k l1 l0 (l0.length : Int) 0
theorem commute_apart.mono_l : ∀ k,(∀ y0 y1 y2 y3,LeO (commute_apart.l0 k y0 y1 y2 y3) (commute_apart.l0 (k + 1) y0 y1 y2 y3)) ∧ (∀ y0 y1 y2 y3 y4 y5 y6 y7,LeO (commute_apart.l1 k y0 y1 y2 y3 y4 y5 y6 y7) (commute_apart.l1 (k + 1) y0 y1 y2 y3 y4 y5 y6 y7))
 | 0 => ⟨fun _ _ _ _ r h => by simp [commute_apart.l0] at h,fun _ _ _ _ _ _ _ _ r h => by simp [commute_apart.l1] at h⟩
 | k + 1 => by
  obtain ⟨ih0,ih1⟩:=commute_apart.mono_l k
  refine ⟨?_,?_⟩
  ·intro y0 y1 y2 y3
   unfold commute_apart.l0
   repeat' first
   | (with_reducible exact ih0 _ _ _ _)
   | (with_reducible exact ih1 _ _ _ _ _ _ _ _)
   | (with_reducible exact LeO.refl _)
   | (with_reducible exact LeO.none _)
   | (with_reducible refine LeO.ite ?_ ?_)
   | (with_reducible refine LeO.bind ?_ (fun _ => ?_))
   | exact ih0 _ _ _ _
   | exact ih1 _ _ _ _ _ _ _ _
   | exact LeO.none _
   | refine LeO.ite ?_ ?_
   | refine LeO.bind ?_ (fun _ => ?_)
  ·intro y0 y1 y2 y3 y4 y5 y6 y7
   unfold commute_apart.l1
   repeat' first
   | (with_reducible exact ih0 _ _ _ _)
   | (with_reducible exact ih1 _ _ _ _ _ _ _ _)
   | (with_reducible exact LeO.refl _)
   | (with_reducible exact LeO.none _)
   | (with_reducible refine LeO.ite ?_ ?_)
   | (with_reducible refine LeO.bind ?_ (fun _ => ?_))
   | exact ih0 _ _ _ _
   | exact ih1 _ _ _ _ _ _ _ _
   | exact LeO.none _
   | refine LeO.ite ?_ ?_
   | refine LeO.bind ?_ (fun _ => ?_)
theorem commute_apart.mono : ∀ a0 a1 k,LeO (commute_apart.f k a0 a1) (commute_apart.f (k + 1) a0 a1):=by
 intro a0 a1 k
 obtain ⟨ih0,ih1⟩:=commute_apart.mono_l k
 unfold commute_apart.f
 repeat' first
   | (with_reducible exact ih0 _ _ _ _)
   | (with_reducible exact ih1 _ _ _ _ _ _ _ _)
   | (with_reducible exact LeO.refl _)
   | (with_reducible exact LeO.none _)
   | (with_reducible refine LeO.ite ?_ ?_)
   | (with_reducible refine LeO.bind ?_ (fun _ => ?_))
   | exact ih0 _ _ _ _
   | exact ih1 _ _ _ _ _ _ _ _
   | exact LeO.none _
   | refine LeO.ite ?_ ?_
   | refine LeO.bind ?_ (fun _ => ?_)
set_option maxHeartbeats 8000000 in
set_option maxRecDepth 100000 in
theorem commute_apart.calls (k : Nat) (A0 : Option Addr) (c0 : Nat) (l0 : List ByteArray) (A1 : Option Addr) (c1 : Nat) (l1 : List ByteArray) (r : Bool) (w : World) (hr0 : Kd.C Kd.string w A0 l0.length l0) (hc0 : l0.length ≤ c0) (hr1 : Kd.C Kd.string w A1 l1.length l1) (hc1 : l1.length ≤ c1) (h : commute_apart.f k l0 l1 = some r) :
  Calls Tryz.prog 150 #[.slice A0 l0.length c0,.slice A1 l1.length c1] w fun e w' => e = .returned (.bool r) ∧ Drawn0 w w':=by
 have HR0:=Aside0.mk hr0
 have HC0:=Aside0.mk hc0
 clear hr0 hc0
 have HR1:=Aside0.mk hr1
 have HC1:=Aside0.mk hc1
 clear hr1 hc1
 have H : (commute_apart.l0 k l1 l0 (l0.length : Int) 0) = some r:=h
 clear h
 have H':=Aside0.mk H
 clear H
 go_enter Tryz.func150,Tryz.ntmps150
 go_wp2
 go_loopg [11] k (fun kq v11 w' => ∃ (x11_1 : Int),v11 = .int .i64 x11_1 ∧ Aside0 (commute_apart.l0 kq l1 l0 (l0.length : Int) x11_1 = some r) ∧ Aside0 (kq ≤ k) ∧ Drawn0 w w')
 case atStart => exact ⟨(0),(by first | rfl | (simp; done) | (simp [*]; done)),H',⟨Nat.le_refl _⟩,by repeat (first | exact Drawn0.refl _ | apply Drawn0.step)⟩
 case round =>
  clear H'
  try clear c1
  try clear p2
  obtain ⟨x11_1,rfl,HA,HK1,⟨m1,rfl⟩⟩:=hrel
  cases gk with
  | zero => exact absurd HA.out (by simp [commute_apart.l0])
  | succ k1 =>
   have H:=HA.out
   clear HA
   simp only [commute_apart.l0] at H
   by_cases c3 : x11_1 < (l0.length : Int)
   ·rw [if_pos c3] at H
    have c3b0 : decide (x11_1 < (l0.length : Int)) = true:=decide_eq_true c3
    clear c3
    by_cases c4 : 0 ≤ x11_1
    ·rw [if_pos c4] at H
     have c4b0 : decide (0 ≤ x11_1) = true:=decide_eq_true c4
     clear c4
     by_cases c5 : x11_1 < (l0.length : Int)
     ·rw [if_pos c5] at H
      have c5b0 : decide (x11_1 < (l0.length : Int)) = true:=decide_eq_true c5
      clear c5
      have H':=Aside0.mk H
      clear H
      have p170 : 0 ≤ (x11_1 : Int):=of_decide_eq_true (by first | (with_reducible assumption) | assumption)
      have q170 : x11_1 < (l0.length : Int):=of_decide_eq_true (by first | (with_reducible assumption) | assumption)
      obtain ⟨ad170,e170,hx170_0⟩:=Kd.at_string HR0.out x11_1 p170 q170
      cases e170
      replace p170:=eq_true p170
      replace q170:=eq_true q170
      go_wp2
      go_loopg [17] k1 (fun kq v17 w' => ∃ (x17_2 : Int),v17 = .int .i64 x17_2 ∧ Aside0 (commute_apart.l1 kq l1 (rdOf ByteArray.empty l0 x11_1) l0 (l0.length : Int) x11_1 l1 (l1.length : Int) x17_2 = some r) ∧ Aside0 (kq ≤ k1) ∧ Drawn0 w w')
      case atStart => exact ⟨(0),(by first | rfl | (simp; done) | (simp [*]; done)),H',⟨Nat.le_refl _⟩,by repeat (first | exact Drawn0.refl _ | apply Drawn0.step)⟩
      case round =>
       clear H'
       try clear c1
       try clear p1
       try clear q1
       try clear hx1
       try clear p2
       try clear c3
       try clear c3b0
       try clear c4
       try clear c4b0
       try clear c5
       try clear c5b0
       try clear hx170_0
       try clear p170
       try clear p2
       try clear q170
       obtain ⟨x17_2,rfl,HA,HK2,⟨m2,rfl⟩⟩:=hrel
       cases gk with
       | zero => exact absurd HA.out (by simp [commute_apart.l1])
       | succ k2 =>
        have H:=HA.out
        clear HA
        simp only [commute_apart.l1] at H
        by_cases c6 : x17_2 < (l1.length : Int)
        ·rw [if_pos c6] at H
         have c6b0 : decide (x17_2 < (l1.length : Int)) = true:=decide_eq_true c6
         clear c6
         by_cases c7 : 0 ≤ x17_2
         ·rw [if_pos c7] at H
          have c7b0 : decide (0 ≤ x17_2) = true:=decide_eq_true c7
          clear c7
          by_cases c8 : x17_2 < (l1.length : Int)
          ·rw [if_pos c8] at H
           have c8b0 : decide (x17_2 < (l1.length : Int)) = true:=decide_eq_true c8
           clear c8
           replace H:=Option.bind_eq_some_iff.mp H
           obtain ⟨t172,A90,H⟩:=H
           replace H : (if t172 = true then (commute_apart.l1 k2 l1 (rdOf ByteArray.empty l0 x11_1) l0 (l0.length : Int) x11_1 l1 (l1.length : Int) (wrap64 (x17_2 + 1))) else (some false)) = some r:=H
           have A9:=Aside0.mk A90
           clear A90
           by_cases c10 : t172 = true
           ·subst c10
            have H1 : (commute_apart.l1 k2 l1 (rdOf ByteArray.empty l0 x11_1) l0 (l0.length : Int) x11_1 l1 (l1.length : Int) (wrap64 (x17_2 + 1))) = some r:=by rw [if_pos rfl] at H; exact H
            clear H
            have H:=H1
            clear H1
            have H':=Aside0.mk H
            clear H
            have p171 : 0 ≤ (x17_2 : Int):=of_decide_eq_true (by first | (with_reducible assumption) | assumption)
            have q171 : x17_2 < (l1.length : Int):=of_decide_eq_true (by first | (with_reducible assumption) | assumption)
            obtain ⟨ad171,e171,hx171_0⟩:=Kd.at_string HR1.out x17_2 p171 q171
            cases e171
            replace p171:=eq_true p171
            replace q171:=eq_true q171
            go_wp2_with (first | ((with_reducible refine gate_callee (f:=68) rfl ?_); refine goesL_ (some 23) rfl rfl Tryz.func68 (by kernel_rfl) rfl #[.string (rdOf ByteArray.empty l0 x11_1),.string (rdOf ByteArray.empty l1 x17_2)] rfl (by (try simp only [List.map_toArray,List.map_cons,List.map_nil]); first | done | rfl | (simp only [List.length_drop,List.length_take]; rfl)) ?_; (with_reducible refine (path_Apart.calls (rdOf ByteArray.empty l0 x11_1) (rdOf ByteArray.empty l1 x17_2) true _ A9.out).mono ?_); rintro e w' ⟨rfl,⟨nd,rfl⟩⟩; refine ⟨_,rfl,?_⟩))
            go_roundg k2
            case measure => have:=HK1.out; have:=HK2.out; omega
            case rel => exact ⟨(wrap64 (x17_2 + 1)),(by first | rfl | (simp; done) | (simp [*]; done)),H',⟨by have:=HK1.out; have:=HK2.out; omega⟩,by repeat (first | exact Drawn0.refl _ | apply Drawn0.step)⟩
           ·replace c10:=Bool.eq_false_iff.mpr c10
            subst c10
            have H1 : (some false) = some r:=by rw [if_neg (show ¬ (false = true) by decide)] at H; exact H
            clear H
            have H:=H1
            clear H1
            obtain rfl:=Option.some.inj H
            have p171 : 0 ≤ (x17_2 : Int):=of_decide_eq_true (by first | (with_reducible assumption) | assumption)
            have q171 : x17_2 < (l1.length : Int):=of_decide_eq_true (by first | (with_reducible assumption) | assumption)
            obtain ⟨ad171,e171,hx171_0⟩:=Kd.at_string HR1.out x17_2 p171 q171
            cases e171
            replace p171:=eq_true p171
            replace q171:=eq_true q171
            go_wp2_with (first | ((with_reducible refine gate_callee (f:=68) rfl ?_); refine goesL_ (some 23) rfl rfl Tryz.func68 (by kernel_rfl) rfl #[.string (rdOf ByteArray.empty l0 x11_1),.string (rdOf ByteArray.empty l1 x17_2)] rfl (by (try simp only [List.map_toArray,List.map_cons,List.map_nil]); first | done | rfl | (simp only [List.length_drop,List.length_take]; rfl)) ?_; (with_reducible refine (path_Apart.calls (rdOf ByteArray.empty l0 x11_1) (rdOf ByteArray.empty l1 x17_2) false _ A9.out).mono ?_); rintro e w' ⟨rfl,⟨nd,rfl⟩⟩; refine ⟨_,rfl,?_⟩))
            go_ret
            exact ⟨by first | rfl | (simp; done) | (simp [*]; done),by repeat (first | exact Drawn0.refl _ | apply Drawn0.step)⟩
          ·rw [if_neg c8] at H
           exact absurd H (by simp)
         ·rw [if_neg c7] at H
          exact absurd H (by simp)
        ·rw [if_neg c6] at H
         have c6b0 : decide (x17_2 < (l1.length : Int)) = false:=decide_eq_false c6
         clear c6
         have H':=Aside0.mk H
         clear H
         go_wp2
         go_roundg k2
         case measure => have:=HK1.out; have:=HK2.out; omega
         case rel => exact ⟨(wrap64 (x11_1 + 1)),(by first | rfl | (simp; done) | (simp [*]; done)),H',⟨by have:=HK1.out; have:=HK2.out; omega⟩,by repeat (first | exact Drawn0.refl _ | apply Drawn0.step)⟩
     ·rw [if_neg c5] at H
      exact absurd H (by simp)
    ·rw [if_neg c4] at H
     exact absurd H (by simp)
   ·rw [if_neg c3] at H
    have c3b0 : decide (x11_1 < (l0.length : Int)) = false:=decide_eq_false c3
    clear c3
    obtain rfl:=Option.some.inj H
    go_wp2
    go_ret
    exact ⟨by first | rfl | (simp; done) | (simp [*]; done),by repeat (first | exact Drawn0.refl _ | apply Drawn0.step)⟩

-- NOT PRINTED: function 107 (commute_paths)

-- NOT PRINTED: function 84 (commute_still)

-- NOT PRINTED: function 85 (commute_beside)

-- NOT PRINTED: function 86 (commute_both)

-- NOT PRINTED: function 52 (commute_rules)

/-! ### commute_class: function 53 -/
def commute_class.f (a0_0 : Int) (a0_1 : ByteArray) (a0_2 : ByteArray) (a0_3 : ByteArray) (a0_4 : Int) (l0_5 : List ByteArray) (l0_6 : List ByteArray) : Option (Int):=if a0_0 = 10 then (some 2) else (if a0_0 ≥ 7 then (some 1) else (some 0))
set_option maxHeartbeats 8000000 in
set_option maxRecDepth 100000 in
theorem commute_class.calls (a0_0 : Int) (a0_1 : ByteArray) (a0_2 : ByteArray) (a0_3 : ByteArray) (a0_4 : Int) (A0_5 : Option Addr) (c0_5 : Nat) (l0_5 : List ByteArray) (A0_6 : Option Addr) (c0_6 : Nat) (l0_6 : List ByteArray) (r : Int) (w : World) (hr0_5 : Kd.C Kd.string w A0_5 l0_5.length l0_5) (hc0_5 : l0_5.length ≤ c0_5) (hr0_6 : Kd.C Kd.string w A0_6 l0_6.length l0_6) (hc0_6 : l0_6.length ≤ c0_6) (h : commute_class.f a0_0 a0_1 a0_2 a0_3 a0_4 l0_5 l0_6 = some r) :
  Calls Tryz.prog 79 #[.agg #[.int .i64 a0_0,.string a0_1,.string a0_2,.string a0_3,.int .i64 a0_4,.slice A0_5 l0_5.length c0_5,.slice A0_6 l0_6.length c0_6]] w fun e w' => e = .returned (.int .i64 r) ∧ Below w.heap.size w w':=by
 have hu24:=Tryz.underlying25
 have HR0_5:=Aside0.mk hr0_5
 have HC0_5:=Aside0.mk hc0_5
 clear hr0_5 hc0_5
 have HR0_6:=Aside0.mk hr0_6
 have HC0_6:=Aside0.mk hc0_6
 clear hr0_6 hc0_6
 have HB:=Aside0.mk (Below.refl w.heap.size w)
 have H : (if a0_0 = 10 then (some 2) else (if a0_0 ≥ 7 then (some 1) else (some 0))) = some r:=h
 clear h
 by_cases c2 : a0_0 = 10
 ·rw [if_pos c2] at H
  have c2b0 : (a0_0 == 10) = true:=beq_iff_eq.mpr c2
  have c2b1 : (a0_0 != 10) = false:=bne_eq_false_iff_eq.mpr c2
  clear c2
  obtain rfl:=Option.some.inj H
  go_enter Tryz.func79,Tryz.ntmps79
  go_wp2_with (first | ((with_reducible refine gate_dst (N:=1) rfl ?_); refine box_event ?hg (N:=1) ?hd (cs:=#[.int .i64 a0_0,.string a0_1,.string a0_2,.string a0_3,.int .i64 a0_4,.slice A0_5 l0_5.length c0_5,.slice A0_6 l0_6.length c0_6]) (t:=25) ?hr ?_; (case hd => rfl); (case hg => rfl); (case hr => first | (go_simp; done) | (go_simp; rfl)); intro gb179 hg w3 hbox hb; have n0_:=Aside0.mk (below_step (by repeat (first | (with_reducible first | exact HB.out | apply below_alloc | apply pw_below_drewN | apply below_drew1) | exact HB.out)) hb); have n1_:=Aside0.mk (hbox); have n2_:=Aside0.mk ((by rw [hg]; exact (below_size (by repeat (first | (with_reducible first | exact HB.out | apply below_alloc | apply pw_below_drewN | apply below_drew1) | exact HB.out))) : w.heap.size ≤ gb179)); have n3_:=Aside0.mk ((by rw [hg]; exact (below_size (by repeat (first | (with_reducible first | exact HB.out | apply below_alloc | apply pw_below_drewN | apply below_drew1) | exact HB.out))) : w.heap.size ≤ gb179)); clear HB; have HB:=n0_; have BK179:=n1_; have GW179:=n2_; have GE179:=n3_; clear n0_ n1_ n2_ n3_; clear hb hbox hg; have hcz4_0 : w3.cell? ⟨gb179,0,none⟩ = some (.int .i64 a0_0):=(blk_cell BK179.out 0).trans rfl; have hcz4_1 : w3.cell? ⟨gb179,1,none⟩ = some (.string a0_1):=(blk_cell BK179.out 1).trans rfl; have hcz4_2 : w3.cell? ⟨gb179,2,none⟩ = some (.string a0_2):=(blk_cell BK179.out 2).trans rfl; have hcz4_3 : w3.cell? ⟨gb179,3,none⟩ = some (.string a0_3):=(blk_cell BK179.out 3).trans rfl; have hcz4_4 : w3.cell? ⟨gb179,4,none⟩ = some (.int .i64 a0_4):=(blk_cell BK179.out 4).trans rfl; have hcz4_5 : w3.cell? ⟨gb179,5,none⟩ = some (.slice A0_5 l0_5.length c0_5):=(blk_cell BK179.out 5).trans rfl; have hcz4_6 : w3.cell? ⟨gb179,6,none⟩ = some (.slice A0_6 l0_6.length c0_6):=(blk_cell BK179.out 6).trans rfl; have hfz4_0:=blk_frozen BK179.out 0; have hfz4_1:=blk_frozen BK179.out 1; have hfz4_2:=blk_frozen BK179.out 2; have hfz4_3:=blk_frozen BK179.out 3; have hfz4_4:=blk_frozen BK179.out 4; have hfz4_5:=blk_frozen BK179.out 5; have hfz4_6:=blk_frozen BK179.out 6))
  go_ret
  exact ⟨by first | rfl | (simp [errW_none,errW_some] <;> rfl) | (simp [*,errW_none,errW_some] <;> rfl),by repeat (first | (with_reducible first | exact HB.out | apply below_alloc | apply pw_below_drewN | apply below_drew1 | refine below_set ?_ GE179.out) | exact HB.out)⟩
 ·rw [if_neg c2] at H
  have c2b0 : (a0_0 == 10) = false:=beq_eq_false_iff_ne.mpr c2
  have c2b1 : (a0_0 != 10) = true:=bne_iff_ne.mpr c2
  by_cases c5 : a0_0 ≥ 7
  ·rw [if_pos c5] at H
   have c5b0 : decide (7 ≤ a0_0) = true:=decide_eq_true c5
   clear c5
   obtain rfl:=Option.some.inj H
   go_enter Tryz.func79,Tryz.ntmps79
   go_wp2_with (first | ((with_reducible refine gate_dst (N:=1) rfl ?_); refine box_event ?hg (N:=1) ?hd (cs:=#[.int .i64 a0_0,.string a0_1,.string a0_2,.string a0_3,.int .i64 a0_4,.slice A0_5 l0_5.length c0_5,.slice A0_6 l0_6.length c0_6]) (t:=25) ?hr ?_; (case hd => rfl); (case hg => rfl); (case hr => first | (go_simp; done) | (go_simp; rfl)); intro gb179 hg w6 hbox hb; have n0_:=Aside0.mk (below_step (by repeat (first | (with_reducible first | exact HB.out | apply below_alloc | apply pw_below_drewN | apply below_drew1) | exact HB.out)) hb); have n1_:=Aside0.mk (hbox); have n2_:=Aside0.mk ((by rw [hg]; exact (below_size (by repeat (first | (with_reducible first | exact HB.out | apply below_alloc | apply pw_below_drewN | apply below_drew1) | exact HB.out))) : w.heap.size ≤ gb179)); have n3_:=Aside0.mk ((by rw [hg]; exact (below_size (by repeat (first | (with_reducible first | exact HB.out | apply below_alloc | apply pw_below_drewN | apply below_drew1) | exact HB.out))) : w.heap.size ≤ gb179)); clear HB; have HB:=n0_; have BK179:=n1_; have GW179:=n2_; have GE179:=n3_; clear n0_ n1_ n2_ n3_; clear hb hbox hg; have hcz7_0 : w6.cell? ⟨gb179,0,none⟩ = some (.int .i64 a0_0):=(blk_cell BK179.out 0).trans rfl; have hcz7_1 : w6.cell? ⟨gb179,1,none⟩ = some (.string a0_1):=(blk_cell BK179.out 1).trans rfl; have hcz7_2 : w6.cell? ⟨gb179,2,none⟩ = some (.string a0_2):=(blk_cell BK179.out 2).trans rfl; have hcz7_3 : w6.cell? ⟨gb179,3,none⟩ = some (.string a0_3):=(blk_cell BK179.out 3).trans rfl; have hcz7_4 : w6.cell? ⟨gb179,4,none⟩ = some (.int .i64 a0_4):=(blk_cell BK179.out 4).trans rfl; have hcz7_5 : w6.cell? ⟨gb179,5,none⟩ = some (.slice A0_5 l0_5.length c0_5):=(blk_cell BK179.out 5).trans rfl; have hcz7_6 : w6.cell? ⟨gb179,6,none⟩ = some (.slice A0_6 l0_6.length c0_6):=(blk_cell BK179.out 6).trans rfl; have hfz7_0:=blk_frozen BK179.out 0; have hfz7_1:=blk_frozen BK179.out 1; have hfz7_2:=blk_frozen BK179.out 2; have hfz7_3:=blk_frozen BK179.out 3; have hfz7_4:=blk_frozen BK179.out 4; have hfz7_5:=blk_frozen BK179.out 5; have hfz7_6:=blk_frozen BK179.out 6))
   go_ret
   exact ⟨by first | rfl | (simp [errW_none,errW_some] <;> rfl) | (simp [*,errW_none,errW_some] <;> rfl),by repeat (first | (with_reducible first | exact HB.out | apply below_alloc | apply pw_below_drewN | apply below_drew1 | refine below_set ?_ GE179.out) | exact HB.out)⟩
  ·rw [if_neg c5] at H
   have c5b0 : decide (7 ≤ a0_0) = false:=decide_eq_false c5
   clear c5
   obtain rfl:=Option.some.inj H
   go_enter Tryz.func79,Tryz.ntmps79
   go_wp2_with (first | ((with_reducible refine gate_dst (N:=1) rfl ?_); refine box_event ?hg (N:=1) ?hd (cs:=#[.int .i64 a0_0,.string a0_1,.string a0_2,.string a0_3,.int .i64 a0_4,.slice A0_5 l0_5.length c0_5,.slice A0_6 l0_6.length c0_6]) (t:=25) ?hr ?_; (case hd => rfl); (case hg => rfl); (case hr => first | (go_simp; done) | (go_simp; rfl)); intro gb179 hg w8 hbox hb; have n0_:=Aside0.mk (below_step (by repeat (first | (with_reducible first | exact HB.out | apply below_alloc | apply pw_below_drewN | apply below_drew1) | exact HB.out)) hb); have n1_:=Aside0.mk (hbox); have n2_:=Aside0.mk ((by rw [hg]; exact (below_size (by repeat (first | (with_reducible first | exact HB.out | apply below_alloc | apply pw_below_drewN | apply below_drew1) | exact HB.out))) : w.heap.size ≤ gb179)); have n3_:=Aside0.mk ((by rw [hg]; exact (below_size (by repeat (first | (with_reducible first | exact HB.out | apply below_alloc | apply pw_below_drewN | apply below_drew1) | exact HB.out))) : w.heap.size ≤ gb179)); clear HB; have HB:=n0_; have BK179:=n1_; have GW179:=n2_; have GE179:=n3_; clear n0_ n1_ n2_ n3_; clear hb hbox hg; have hcz9_0 : w8.cell? ⟨gb179,0,none⟩ = some (.int .i64 a0_0):=(blk_cell BK179.out 0).trans rfl; have hcz9_1 : w8.cell? ⟨gb179,1,none⟩ = some (.string a0_1):=(blk_cell BK179.out 1).trans rfl; have hcz9_2 : w8.cell? ⟨gb179,2,none⟩ = some (.string a0_2):=(blk_cell BK179.out 2).trans rfl; have hcz9_3 : w8.cell? ⟨gb179,3,none⟩ = some (.string a0_3):=(blk_cell BK179.out 3).trans rfl; have hcz9_4 : w8.cell? ⟨gb179,4,none⟩ = some (.int .i64 a0_4):=(blk_cell BK179.out 4).trans rfl; have hcz9_5 : w8.cell? ⟨gb179,5,none⟩ = some (.slice A0_5 l0_5.length c0_5):=(blk_cell BK179.out 5).trans rfl; have hcz9_6 : w8.cell? ⟨gb179,6,none⟩ = some (.slice A0_6 l0_6.length c0_6):=(blk_cell BK179.out 6).trans rfl; have hfz9_0:=blk_frozen BK179.out 0; have hfz9_1:=blk_frozen BK179.out 1; have hfz9_2:=blk_frozen BK179.out 2; have hfz9_3:=blk_frozen BK179.out 3; have hfz9_4:=blk_frozen BK179.out 4; have hfz9_5:=blk_frozen BK179.out 5; have hfz9_6:=blk_frozen BK179.out 6))
   go_ret
   exact ⟨by first | rfl | (simp [errW_none,errW_some] <;> rfl) | (simp [*,errW_none,errW_some] <;> rfl),by repeat (first | (with_reducible first | exact HB.out | apply below_alloc | apply pw_below_drewN | apply below_drew1 | refine below_set ?_ GE179.out) | exact HB.out)⟩

-- NOT PRINTED: function 25 (commute_Commute)

-- NOT PRINTED: function 26 (commute_Past)

-- NOT PRINTED: function 23 (counterpanelaw10_head)
end Go.Proofs.YthhohbidjhcjeaaGreatDoor.Q
namespace Go.Proofs.YthhohbidjhcjeaaGreatDoor.H
open Go.RowKit Go.Proofs.YthhohbidjhcjeaaGreatDoorW.PrintWords Go.Proofs.YthhohbidjhcjeaaGreatDoorW.PrintLast Go.Proofs.YthhohbidjhcjeaaGreatDoorW.PrintMore
open Go.Proofs.YthhohbidjhcjeaaGreatDoor.Q

/-- A patch's cells, its lists as values. -/
abbrev cs (x : S25) (A5 : Option Addr) (c5 : Nat) (A6 : Option Addr) (c6 : Nat) : Array Value:=#[.int .i64 x.f0,.string x.f1,.string x.f2,.string x.f3,.int .i64 x.f4,.slice A5 x.f5.length c5,.slice A6 x.f6.length c6]
/-- What lines makes of two changes. -/
def refLines (p q : S25) : S25 × S25 × Bool :=
 if q.f4 > (p.f6.length : Int) ∧ wrap64 (q.f4 - (p.f6.length : Int)) > p.f4 then ({ q with f4:=wrap64 (wrap64 (q.f4 - (p.f6.length : Int)) + (p.f5.length : Int)) },p,true)
 else if p.f4 > (q.f5.length : Int) ∧ wrap64 (p.f4 - (q.f5.length : Int)) > q.f4 then (q,{ p with f4:=wrap64 (wrap64 (p.f4 - (q.f5.length : Int)) + (q.f6.length : Int)) },true)
 else (q,p,false)
end Go.Proofs.YthhohbidjhcjeaaGreatDoor.H

namespace Go.Proofs.YthhohbidjhcjeaaGreatDoor.H
open Go.RowKit Go.Proofs.YthhohbidjhcjeaaGreatDoorW.PrintWords Go.Proofs.YthhohbidjhcjeaaGreatDoorW.PrintLast Go.Proofs.YthhohbidjhcjeaaGreatDoorW.PrintMore
open Go.Proofs.YthhohbidjhcjeaaGreatDoor.Q Go.Proofs.YthhohbidjhcjeaaGreatDoor.Pl

set_option maxHeartbeats 2000000 in
set_option maxRecDepth 100000 in
theorem beside_calls (p q : S25) (A5 : Option Addr) (c5 : Nat) (A6 : Option Addr) (c6 : Nat) (B5 : Option Addr) (d5 : Nat) (B6 : Option Addr) (d6 : Nat) (gp gq : Nat) (w : World)
  (hp : w.heap[gp]? = some (.cells #[.int .i64 p.f0,.string p.f1,.string p.f2,.string p.f3,.int .i64 p.f4,.slice A5 p.f5.length c5,.slice A6 p.f6.length c6] 25 (0,0))) (hq : w.heap[gq]? = some (.cells #[.int .i64 q.f0,.string q.f1,.string q.f2,.string q.f3,.int .i64 q.f4,.slice B5 q.f5.length d5,.slice B6 q.f6.length d6] 25 (0,0))) :
  Calls Tryz.prog 120 #[.pointer (some ⟨gp,0,none⟩),.pointer (some ⟨gq,0,none⟩)] w fun e w' => e = .returned (.bool (p.f1.toList != q.f1.toList)) ∧ Below w.heap.size w w':=by
 have pc0 : w.cell? ⟨gp,0,none⟩ = some (.int .i64 p.f0):=(blk_cell hp 0).trans rfl
 have pf0:=blk_frozen hp 0
 have pc1 : w.cell? ⟨gp,1,none⟩ = some (.string p.f1):=(blk_cell hp 1).trans rfl
 have pf1:=blk_frozen hp 1
 have pc2 : w.cell? ⟨gp,2,none⟩ = some (.string p.f2):=(blk_cell hp 2).trans rfl
 have pf2:=blk_frozen hp 2
 have pc3 : w.cell? ⟨gp,3,none⟩ = some (.string p.f3):=(blk_cell hp 3).trans rfl
 have pf3:=blk_frozen hp 3
 have pc4 : w.cell? ⟨gp,4,none⟩ = some (.int .i64 p.f4):=(blk_cell hp 4).trans rfl
 have pf4:=blk_frozen hp 4
 have pc5 : w.cell? ⟨gp,5,none⟩ = some (.slice A5 p.f5.length c5):=(blk_cell hp 5).trans rfl
 have pf5:=blk_frozen hp 5
 have pc6 : w.cell? ⟨gp,6,none⟩ = some (.slice A6 p.f6.length c6):=(blk_cell hp 6).trans rfl
 have pf6:=blk_frozen hp 6
 have qc0 : w.cell? ⟨gq,0,none⟩ = some (.int .i64 q.f0):=(blk_cell hq 0).trans rfl
 have qf0:=blk_frozen hq 0
 have qc1 : w.cell? ⟨gq,1,none⟩ = some (.string q.f1):=(blk_cell hq 1).trans rfl
 have qf1:=blk_frozen hq 1
 have qc2 : w.cell? ⟨gq,2,none⟩ = some (.string q.f2):=(blk_cell hq 2).trans rfl
 have qf2:=blk_frozen hq 2
 have qc3 : w.cell? ⟨gq,3,none⟩ = some (.string q.f3):=(blk_cell hq 3).trans rfl
 have qf3:=blk_frozen hq 3
 have qc4 : w.cell? ⟨gq,4,none⟩ = some (.int .i64 q.f4):=(blk_cell hq 4).trans rfl
 have qf4:=blk_frozen hq 4
 have qc5 : w.cell? ⟨gq,5,none⟩ = some (.slice B5 q.f5.length d5):=(blk_cell hq 5).trans rfl
 have qf5:=blk_frozen hq 5
 have qc6 : w.cell? ⟨gq,6,none⟩ = some (.slice B6 q.f6.length d6):=(blk_cell hq 6).trans rfl
 have qf6:=blk_frozen hq 6
 go_enter Tryz.func120,Tryz.ntmps120
 go_wp2
 all_goals go_region
 all_goals go_wp2
 all_goals go_ret
 all_goals exact ⟨rfl,by repeat (first | exact Below.refl _ _ | refine Below.drew ?_)⟩
/-- A block of texts, read as a row. -/
theorem texts_read {W : World} {g : Nat} {l : List ByteArray} (h : W.heap[g]? = some (.cells (l.map Value.string).toArray 9 (0,0))) (hl : l.length ≤ 9223372036854775807) : Kd.C Kd.string W (some ⟨g,0,none⟩) l.length l:=by
 refine ⟨rfl,hl,fun _ => ⟨_,rfl,fun j x hj => ⟨[.string x],rfl,rfl,fun i u hu => ?_⟩⟩⟩
 cases i with
 | zero =>
  obtain rfl : Value.string x = u:=by simpa using hu
  have hc:=blk_cell h j
  have e : (⟨g,0,none⟩ : Addr).add (j * 1 + 0) = ⟨g,j,none⟩:=by simp [Addr.add]; omega
  show W.cell? ((⟨g,0,none⟩ : Addr).add (j * 1 + 0)) = _
  rw [e,hc]
  simp [hj]
 | succ i => simp at hu
/-- The paths of a patch. -/
def pathsS (x : S25) : List ByteArray:=if x.f0 = 10 then [x.f1,x.f2] else [x.f1]
set_option maxHeartbeats 2000000 in
set_option maxRecDepth 100000 in
theorem paths_calls (p : S25) (A5 : Option Addr) (c5 : Nat) (A6 : Option Addr) (c6 : Nat) (gp : Nat) (w : World) (hp : w.heap[gp]? = some (.cells #[.int .i64 p.f0,.string p.f1,.string p.f2,.string p.f3,.int .i64 p.f4,.slice A5 p.f5.length c5,.slice A6 p.f6.length c6] 25 (0,0))) :
  Calls Tryz.prog 151 #[.pointer (some ⟨gp,0,none⟩)] w fun e w' => ∃ A c,e = .returned (.slice A (pathsS p).length c) ∧ (pathsS p).length ≤ c ∧ Kd.C Kd.string w' A (pathsS p).length (pathsS p) ∧ Below w.heap.size w w':=by
 have pc0 : w.cell? ⟨gp,0,none⟩ = some (.int .i64 p.f0):=(blk_cell hp 0).trans rfl
 have pf0:=blk_frozen hp 0
 have pc1 : w.cell? ⟨gp,1,none⟩ = some (.string p.f1):=(blk_cell hp 1).trans rfl
 have pf1:=blk_frozen hp 1
 have pc2 : w.cell? ⟨gp,2,none⟩ = some (.string p.f2):=(blk_cell hp 2).trans rfl
 have pf2:=blk_frozen hp 2
 have pc3 : w.cell? ⟨gp,3,none⟩ = some (.string p.f3):=(blk_cell hp 3).trans rfl
 have pf3:=blk_frozen hp 3
 have pc4 : w.cell? ⟨gp,4,none⟩ = some (.int .i64 p.f4):=(blk_cell hp 4).trans rfl
 have pf4:=blk_frozen hp 4
 have pc5 : w.cell? ⟨gp,5,none⟩ = some (.slice A5 p.f5.length c5):=(blk_cell hp 5).trans rfl
 have pf5:=blk_frozen hp 5
 have pc6 : w.cell? ⟨gp,6,none⟩ = some (.slice A6 p.f6.length c6):=(blk_cell hp 6).trans rfl
 have pf6:=blk_frozen hp 6
 unfold pathsS
 by_cases h : p.f0 = 10
 ·have hb : (p.f0 == 10) = true:=by simpa using h
  rw [if_pos h]
  clear h
  go_enter Tryz.func151,Tryz.ntmps151
  go_wp2
  all_goals go_region
  all_goals go_wp2
  all_goals go_ret
  all_goals exact ⟨_,_,rfl,Nat.le_refl _,texts_read (l:=[p.f1,p.f2]) (World.alloc_heap_new w _) (by simp),((Below.refl _ w).alloc (Nat.le_refl _) _).drew⟩
 ·have hb : (p.f0 == 10) = false:=by simpa using h
  rw [if_neg h]
  clear h
  go_enter Tryz.func151,Tryz.ntmps151
  go_wp2
  go_ret
  exact ⟨_,_,rfl,Nat.le_refl _,texts_read (l:=[p.f1]) (World.alloc_heap_new w _) (by simp),(Below.refl _ w).alloc (Nat.le_refl _) _⟩
/-- Does no path of one lie in a path of the other? -/
def apartL (a b : List ByteArray) : Bool:=a.all (fun x => b.all (fun y => apartB x y))
theorem apart_l1 (a b : List ByteArray) (ha : a.length ≤ 140737488355328) (hb : b.length ≤ 140737488355328) (i : Nat) (hi : i < a.length) (r : Bool) (hr : Ev (fun k => commute_apart.l0 k b a (a.length : Int) ((i + 1 : Nat) : Int)) r) :
  ∀ (d j : Nat),j + d = b.length → Ev (fun k => commute_apart.l1 k b a[i] a (a.length : Int) (i : Int) b (b.length : Int) (j : Int)) ((b.drop j).all (fun y => apartB a[i] y) && r):=by
 intro d
 induction d with
 | zero =>
  intro j hj
  rw [List.drop_of_length_le (by omega)]
  refine Ev.step (f:=fun k => commute_apart.l0 k b a (a.length : Int) ((i + 1 : Nat) : Int)) (fun k => ?_) (by simpa using hr)
  simp only [commute_apart.l1]
  rw [if_neg (by omega),wrap_1 hi ha]
 | succ d ih =>
  intro j hj
  have h1 : j < b.length:=by omega
  have key:=ih (j + 1) (by omega)
  rw [List.drop_eq_getElem_cons h1,List.all_cons]
  cases hx : apartB a[i] b[j] with
  | true =>
   rw [Bool.true_and]
   refine Ev.step (fun k => ?_) key
   simp only [commute_apart.l1]
   rw [if_pos (by omega),if_pos (by omega),if_pos (by omega),rdOf_get _ _ h1,apart_f,hx,Option.bind_some,if_pos rfl,wrap_1 h1 hb]
  | false =>
   rw [Bool.false_and,Bool.false_and]
   refine Ev.step (f:=fun _ => some false) (fun k => ?_) (Ev.now _)
   simp only [commute_apart.l1]
   rw [if_pos (by omega),if_pos (by omega),if_pos (by omega),rdOf_get _ _ h1,apart_f,hx,Option.bind_some,if_neg (by simp)]
theorem apart_l0 (a b : List ByteArray) (ha : a.length ≤ 140737488355328) (hb : b.length ≤ 140737488355328) : ∀ (d i : Nat),i + d = a.length → Ev (fun k => commute_apart.l0 k b a (a.length : Int) (i : Int)) (apartL (a.drop i) b):=by
 intro d
 induction d with
 | zero =>
  intro i hi
  rw [List.drop_of_length_le (by omega)]
  refine Ev.step (f:=fun _ => some true) (fun k => ?_) (Ev.now _)
  simp only [commute_apart.l0]
  rw [if_neg (by omega)]
 | succ d ih =>
  intro i hi
  have h1 : i < a.length:=by omega
  have key:=apart_l1 a b ha hb i h1 _ (ih (i + 1) (by omega)) b.length 0 (by omega)
  rw [List.drop_zero] at key
  rw [List.drop_eq_getElem_cons h1,apartL,List.all_cons]
  refine Ev.step (fun k => ?_) key
  simp only [commute_apart.l0]
  rw [if_pos (by omega),if_pos (by omega),if_pos (by omega),rdOf_get _ _ h1]
  rfl
theorem apart_list (a b : List ByteArray) (ha : a.length ≤ 140737488355328) (hb : b.length ≤ 140737488355328) : Ev (fun k => commute_apart.f k a b) (apartL a b):=by
 have h:=apart_l0 a b ha hb a.length 0 (by omega)
 rw [List.drop_zero] at h
 exact h
theorem paths_len (x : S25) : (pathsS x).length ≤ 140737488355328:=by
 unfold pathsS
 split <;> simp
set_option maxHeartbeats 2000000 in
set_option maxRecDepth 100000 in
theorem still_calls (p q : S25) (A5 : Option Addr) (c5 : Nat) (A6 : Option Addr) (c6 : Nat) (B5 : Option Addr) (d5 : Nat) (B6 : Option Addr) (d6 : Nat) (gp gq : Nat) (w : World)
  (hp : w.heap[gp]? = some (.cells #[.int .i64 p.f0,.string p.f1,.string p.f2,.string p.f3,.int .i64 p.f4,.slice A5 p.f5.length c5,.slice A6 p.f6.length c6] 25 (0,0))) (hq : w.heap[gq]? = some (.cells #[.int .i64 q.f0,.string q.f1,.string q.f2,.string q.f3,.int .i64 q.f4,.slice B5 q.f5.length d5,.slice B6 q.f6.length d6] 25 (0,0))) :
  Calls Tryz.prog 119 #[.pointer (some ⟨gp,0,none⟩),.pointer (some ⟨gq,0,none⟩)] w fun e w' => e = .returned (.bool (apartL (pathsS p) (pathsS q))) ∧ Below w.heap.size w w':=by
 obtain ⟨k,hk⟩:=(apart_list (pathsS p) (pathsS q) (paths_len p) (paths_len q)).rounds
 go_enter Tryz.func119,Tryz.ntmps119
 go_wp2_with (fail)
 refine (paths_calls p A5 c5 A6 c6 gp w hp).mono ?_
 rintro e w1 ⟨X,cx,rfl,lx,hX,hb1⟩
 go_wp2_with (fail)
 refine (paths_calls q B5 d5 B6 d6 gq w1 ((hb1.block _ (Array.getElem?_eq_some_iff.1 hq).1).trans hq)).mono ?_
 rintro e w2 ⟨Y,cy,rfl,ly,hY,hb2⟩
 go_wp2_with (fail)
 refine (commute_apart.calls k X cx _ Y cy _ _ w2 (Kd.C_below hX hb2) lx hY ly hk).mono ?_
 rintro e w3 ⟨rfl,m,rfl⟩
 go_wp2
 go_ret
 exact ⟨rfl,pw_below_drewN (hb1.trans (hb2.mono hb1.size)) m⟩
/-- What a rule leaves: the two boxes hold what it says, all else that lay lies as it lay. -/
structure Left2 (w : World) (gp gq : Nat) (cp cq : Array Value) (w' : World) : Prop where
 p : w'.heap[gp]? = some (.cells cp 25 (0,0))
 q : w'.heap[gq]? = some (.cells cq 25 (0,0))
 size : w.heap.size ≤ w'.heap.size
 other : ∀ k,k < w.heap.size → k ≠ gp → k ≠ gq → w'.heap[k]? = w.heap[k]?
 below : ∀ (B : Nat) (w0 : World),Below B w0 w → B ≤ gp → B ≤ gq → Below B w0 w'
theorem Left2.of_below {w w' : World} {gp gq : Nat} {cp cq : Array Value} (hp : w.heap[gp]? = some (.cells cp 25 (0,0))) (hq : w.heap[gq]? = some (.cells cq 25 (0,0))) (h : Below w.heap.size w w') : Left2 w gp gq cp cq w' :=
 ⟨(h.block _ (Array.getElem?_eq_some_iff.1 hp).1).trans hp,(h.block _ (Array.getElem?_eq_some_iff.1 hq).1).trans hq,h.size,fun k hk _ _ => h.block k hk,fun B w0 hb h1 _ => hb.trans (h.mono (by have:=(Array.getElem?_eq_some_iff.1 hp).1; omega))⟩
/-- One field of the first box is written. -/
theorem Left2.set_p {w : World} {gp gq i : Nat} {cp cq : Array Value} {v : Value} (hne : gp ≠ gq) (hp : w.heap[gp]? = some (.cells cp 25 (0,0))) (hq : w.heap[gq]? = some (.cells cq 25 (0,0))) : Left2 w gp gq (cp.setIfInBounds i v) cq (w.setCell ⟨gp,i,none⟩ v) :=
 ⟨blk_set hp i v,blk_far hq (Ne.symm hne) v,by simp,fun k _ h1 _ => Below.heap_setCell w _ v k h1,fun _ _ hb h1 _ => Below.setCell (p:=⟨gp,i,none⟩) hb h1 _⟩
theorem Left2.set_q {w : World} {gp gq i : Nat} {cp cq : Array Value} {v : Value} (hne : gp ≠ gq) (hp : w.heap[gp]? = some (.cells cp 25 (0,0))) (hq : w.heap[gq]? = some (.cells cq 25 (0,0))) : Left2 w gp gq cp (cq.setIfInBounds i v) (w.setCell ⟨gq,i,none⟩ v) :=
 ⟨blk_far hp hne v,blk_set hq i v,by simp,fun k _ _ h1 => Below.heap_setCell w _ v k h1,fun _ _ hb _ h1 => Below.setCell (p:=⟨gq,i,none⟩) hb h1 _⟩
theorem Left2.trans {w w1 w2 : World} {gp gq : Nat} {cp cq cp' cq' : Array Value} (h : Left2 w gp gq cp cq w1) (k : Left2 w1 gp gq cp' cq' w2) : Left2 w gp gq cp' cq' w2 :=
 ⟨k.p,k.q,Nat.le_trans h.size k.size,fun j hj h1 h2 => (k.other j (Nat.lt_of_lt_of_le hj h.size) h1 h2).trans (h.other j hj h1 h2),fun B w0 hb h1 h2 => k.below B w0 (h.below B w0 hb h1 h2) h1 h2⟩
theorem Left2.drew {w w' : World} {gp gq : Nat} {cp cq : Array Value} (h : Left2 w gp gq cp cq w') : Left2 w gp gq cp cq w'.drew:=⟨h.p,h.q,h.size,h.other,fun B w0 a b c => (h.below B w0 a b c).drew⟩
/-- Two changes: what the program's rule makes of them. -/
def bothS (p q : S25) : S25 × S25 × Bool :=
 if p.f1.toList = q.f1.toList then
  if p.f0 = 7 ∧ q.f0 = 7 then
   if wrap64 (q.f4 - (p.f6.length : Int)) > p.f4 then (p,{ q with f4:=wrap64 (q.f4 + wrap64 ((p.f5.length : Int) - (p.f6.length : Int))) },true)
   else if wrap64 (p.f4 - (q.f5.length : Int)) > q.f4 then ({ p with f4:=wrap64 (p.f4 + wrap64 ((q.f6.length : Int) - (q.f5.length : Int))) },q,true)
   else (p,q,false)
  else (p,q,false)
 else (p,q,true)
set_option maxHeartbeats 4000000 in
set_option maxRecDepth 100000 in
theorem both_calls (p q : S25) (A5 : Option Addr) (c5 : Nat) (A6 : Option Addr) (c6 : Nat) (B5 : Option Addr) (d5 : Nat) (B6 : Option Addr) (d6 : Nat) (gp gq : Nat) (hne : gp ≠ gq) (w : World)
  (hp : w.heap[gp]? = some (.cells #[.int .i64 p.f0,.string p.f1,.string p.f2,.string p.f3,.int .i64 p.f4,.slice A5 p.f5.length c5,.slice A6 p.f6.length c6] 25 (0,0))) (hq : w.heap[gq]? = some (.cells #[.int .i64 q.f0,.string q.f1,.string q.f2,.string q.f3,.int .i64 q.f4,.slice B5 q.f5.length d5,.slice B6 q.f6.length d6] 25 (0,0))) :
  Calls Tryz.prog 121 #[.pointer (some ⟨gp,0,none⟩),.pointer (some ⟨gq,0,none⟩)] w fun e w' => e = .returned (.bool (bothS p q).2.2) ∧ Left2 w gp gq (cs (bothS p q).1 A5 c5 A6 c6) (cs (bothS p q).2.1 B5 d5 B6 d6) w':=by
 have pc0 : w.cell? ⟨gp,0,none⟩ = some (.int .i64 p.f0):=(blk_cell hp 0).trans rfl
 have pf0:=blk_frozen hp 0
 have pc1 : w.cell? ⟨gp,1,none⟩ = some (.string p.f1):=(blk_cell hp 1).trans rfl
 have pf1:=blk_frozen hp 1
 have pc2 : w.cell? ⟨gp,2,none⟩ = some (.string p.f2):=(blk_cell hp 2).trans rfl
 have pf2:=blk_frozen hp 2
 have pc3 : w.cell? ⟨gp,3,none⟩ = some (.string p.f3):=(blk_cell hp 3).trans rfl
 have pf3:=blk_frozen hp 3
 have pc4 : w.cell? ⟨gp,4,none⟩ = some (.int .i64 p.f4):=(blk_cell hp 4).trans rfl
 have pf4:=blk_frozen hp 4
 have pc5 : w.cell? ⟨gp,5,none⟩ = some (.slice A5 p.f5.length c5):=(blk_cell hp 5).trans rfl
 have pf5:=blk_frozen hp 5
 have pc6 : w.cell? ⟨gp,6,none⟩ = some (.slice A6 p.f6.length c6):=(blk_cell hp 6).trans rfl
 have pf6:=blk_frozen hp 6
 have qc0 : w.cell? ⟨gq,0,none⟩ = some (.int .i64 q.f0):=(blk_cell hq 0).trans rfl
 have qf0:=blk_frozen hq 0
 have qc1 : w.cell? ⟨gq,1,none⟩ = some (.string q.f1):=(blk_cell hq 1).trans rfl
 have qf1:=blk_frozen hq 1
 have qc2 : w.cell? ⟨gq,2,none⟩ = some (.string q.f2):=(blk_cell hq 2).trans rfl
 have qf2:=blk_frozen hq 2
 have qc3 : w.cell? ⟨gq,3,none⟩ = some (.string q.f3):=(blk_cell hq 3).trans rfl
 have qf3:=blk_frozen hq 3
 have qc4 : w.cell? ⟨gq,4,none⟩ = some (.int .i64 q.f4):=(blk_cell hq 4).trans rfl
 have qf4:=blk_frozen hq 4
 have qc5 : w.cell? ⟨gq,5,none⟩ = some (.slice B5 q.f5.length d5):=(blk_cell hq 5).trans rfl
 have qf5:=blk_frozen hq 5
 have qc6 : w.cell? ⟨gq,6,none⟩ = some (.slice B6 q.f6.length d6):=(blk_cell hq 6).trans rfl
 have qf6:=blk_frozen hq 6
 unfold bothS
 by_cases h1 : p.f1.toList = q.f1.toList
 ·have b1 : (p.f1.toList != q.f1.toList) = false:=by simpa using h1
  have b1' : (p.f1.toList == q.f1.toList) = true:=by simpa using h1
  rw [if_pos h1]
  clear h1
  by_cases h7 : p.f0 = 7
  ·have b2 : (p.f0 != 7) = false:=by simpa using h7
   have b2' : (p.f0 == 7) = true:=by simpa using h7
   by_cases h8 : q.f0 = 7
   ·have b3 : (q.f0 != 7) = false:=by simpa using h8
    have b3' : (q.f0 == 7) = true:=by simpa using h8
    rw [if_pos ⟨h7,h8⟩]
    clear h7 h8
    by_cases h3 : wrap64 (q.f4 - (p.f6.length : Int)) > p.f4
    ·have b4 : decide (p.f4 < wrap64 (q.f4 - (p.f6.length : Int))) = true:=decide_eq_true h3
     rw [if_pos h3]
     clear h3
     go_enter Tryz.func121,Tryz.ntmps121
     go_wp2
     all_goals go_region
     all_goals go_wp2
     all_goals go_region
     all_goals go_wp2
     all_goals go_region
     all_goals go_wp2
     all_goals go_ret
     all_goals exact ⟨rfl,by repeat (first | exact Left2.set_q (i:=4) hne hp hq | refine Left2.drew ?_)⟩
    ·have b4 : decide (p.f4 < wrap64 (q.f4 - (p.f6.length : Int))) = false:=decide_eq_false h3
     rw [if_neg h3]
     clear h3
     by_cases h5 : wrap64 (p.f4 - (q.f5.length : Int)) > q.f4
     ·have b5 : decide (q.f4 < wrap64 (p.f4 - (q.f5.length : Int))) = true:=decide_eq_true h5
      rw [if_pos h5]
      clear h5
      go_enter Tryz.func121,Tryz.ntmps121
      go_wp2
      all_goals go_region
      all_goals go_wp2
      all_goals go_region
      all_goals go_wp2
      all_goals go_region
      all_goals go_wp2
      all_goals go_region
      all_goals go_wp2
      all_goals go_ret
      all_goals exact ⟨rfl,by repeat (first | exact Left2.set_p (i:=4) hne hp hq | refine Left2.drew ?_)⟩
     ·have b5 : decide (q.f4 < wrap64 (p.f4 - (q.f5.length : Int))) = false:=decide_eq_false h5
      rw [if_neg h5]
      clear h5
      go_enter Tryz.func121,Tryz.ntmps121
      go_wp2
      all_goals go_region
      all_goals go_wp2
      all_goals go_region
      all_goals go_wp2
      all_goals go_region
      all_goals go_wp2
      all_goals go_ret
      all_goals exact ⟨rfl,Left2.of_below hp hq (by repeat (first | exact Below.refl _ _ | refine Below.drew ?_))⟩
   ·have b3 : (q.f0 != 7) = true:=by simpa using h8
    have b3' : (q.f0 == 7) = false:=by simpa using h8
    rw [if_neg (fun h => h8 h.2)]
    clear h7 h8
    go_enter Tryz.func121,Tryz.ntmps121
    go_wp2
    all_goals go_region
    all_goals go_wp2
    all_goals go_ret
    all_goals exact ⟨rfl,Left2.of_below hp hq (by repeat (first | exact Below.refl _ _ | refine Below.drew ?_))⟩
  ·have b2 : (p.f0 != 7) = true:=by simpa using h7
   have b2' : (p.f0 == 7) = false:=by simpa using h7
   rw [if_neg (fun h => h7 h.1)]
   clear h7
   go_enter Tryz.func121,Tryz.ntmps121
   go_wp2
   all_goals go_region
   all_goals go_wp2
   all_goals go_ret
   all_goals exact ⟨rfl,Left2.of_below hp hq (by repeat (first | exact Below.refl _ _ | refine Below.drew ?_))⟩
 ·have b1 : (p.f1.toList != q.f1.toList) = true:=by simpa using h1
  have b1' : (p.f1.toList == q.f1.toList) = false:=by simpa using h1
  rw [if_neg h1]
  clear h1
  go_enter Tryz.func121,Tryz.ntmps121
  go_wp2
  all_goals go_region
  all_goals go_wp2
  all_goals go_ret
  all_goals exact ⟨rfl,Left2.of_below hp hq (by repeat (first | exact Below.refl _ _ | refine Below.drew ?_))⟩
end Go.Proofs.YthhohbidjhcjeaaGreatDoor.H

namespace Go.Proofs.YthhohbidjhcjeaaGreatDoor.H
open Go.RowKit Go.Proofs.YthhohbidjhcjeaaGreatDoorW.PrintWords Go.Proofs.YthhohbidjhcjeaaGreatDoorW.PrintLast Go.Proofs.YthhohbidjhcjeaaGreatDoorW.PrintMore
open Go.Proofs.YthhohbidjhcjeaaGreatDoor.Q Go.Proofs.YthhohbidjhcjeaaGreatDoor.Pl

/-- Where what lies in a place lies when that is moved. -/
def movedS (p fr dst : ByteArray) : ByteArray × Bool:=if withinB p fr = true then (dst ++ p.extract fr.size p.size,true) else (⟨#[]⟩,false)
theorem within_le {a b : ByteArray} (h : withinB a b = true) : b.size ≤ a.size:=by
 unfold withinB at h
 split at h
 ·rename_i h2
  exact h2.2
 ·cases h
/-- What a write into one box leaves. -/
structure Left1 (w : World) (g : Nat) (c : Array Value) (w' : World) : Prop where
 p : w'.heap[g]? = some (.cells c 25 (0,0))
 size : w.heap.size ≤ w'.heap.size
 other : ∀ k,k < w.heap.size → k ≠ g → w'.heap[k]? = w.heap[k]?
 below : ∀ (B : Nat) (w0 : World),Below B w0 w → B ≤ g → Below B w0 w'
theorem Left1.of_below {w w' : World} {g : Nat} {c : Array Value} (hp : w.heap[g]? = some (.cells c 25 (0,0))) (h : Below w.heap.size w w') : Left1 w g c w' :=
 ⟨(h.block _ (blk_lt hp)).trans hp,h.size,fun k hk _ => h.block k hk,fun B w0 hb h1 => hb.trans (h.mono (by have:=blk_lt hp; omega))⟩
theorem Left1.set {w w1 : World} {g i : Nat} {c : Array Value} {v : Value} (h : Left1 w g c w1) : Left1 w g (c.setIfInBounds i v) (w1.setCell ⟨g,i,none⟩ v) :=
 ⟨blk_set h.p i v,by simpa using h.size,fun k hk h1 => (Below.heap_setCell w1 _ v k h1).trans (h.other k hk h1),fun B w0 hb h1 => Below.setCell (p:=⟨g,i,none⟩) (h.below B w0 hb h1) h1 _⟩
theorem Left1.drew {w w1 : World} {g : Nat} {c : Array Value} (h : Left1 w g c w1) : Left1 w g c w1.drew:=⟨h.p,h.size,h.other,fun B w0 hb h1 => (h.below B w0 hb h1).drew⟩
theorem Left1.two_p {w w' : World} {gp gq : Nat} {cp cq : Array Value} (hne : gp ≠ gq) (hq : w.heap[gq]? = some (.cells cq 25 (0,0))) (h : Left1 w gp cp w') : Left2 w gp gq cp cq w' :=
 ⟨h.p,(h.other gq (blk_lt hq) (Ne.symm hne)).trans hq,h.size,fun k hk h1 _ => h.other k hk h1,fun B w0 hb h1 _ => h.below B w0 hb h1⟩
theorem Left1.two_q {w w' : World} {gp gq : Nat} {cp cq : Array Value} (hne : gp ≠ gq) (hp : w.heap[gp]? = some (.cells cp 25 (0,0))) (h : Left1 w gq cq w') : Left2 w gp gq cp cq w' :=
 ⟨(h.other gp (blk_lt hp) hne).trans hp,h.p,h.size,fun k hk _ h1 => h.other k hk h1,fun B w0 hb _ h1 => h.below B w0 hb h1⟩
/-- A path that is carried from one place to another one. -/
def carryS (s fr dst : ByteArray) : ByteArray × Bool:=if withinB s fr = true then (dst ++ s.extract fr.size s.size,true) else (s,!withinB s dst)
set_option maxHeartbeats 1000000 in
set_option maxRecDepth 100000 in
theorem carry_calls (x : S25) (A5 : Option Addr) (c5 : Nat) (A6 : Option Addr) (c6 : Nat) (g : Nat) (fr dst : ByteArray) (w : World) (hs : dst.size + x.f1.size ≤ 140737488355328) (hp : w.heap[g]? = some (.cells #[.int .i64 x.f0,.string x.f1,.string x.f2,.string x.f3,.int .i64 x.f4,.slice A5 x.f5.length c5,.slice A6 x.f6.length c6] 25 (0,0))) :
  Calls Tryz.prog 123 #[.pointer (some ⟨g,1,none⟩),.string fr,.string dst] w fun e w' => e = .returned (.bool (carryS x.f1 fr dst).2) ∧ Left1 w g #[.int .i64 x.f0,.string (carryS x.f1 fr dst).1,.string x.f2,.string x.f3,.int .i64 x.f4,.slice A5 x.f5.length c5,.slice A6 x.f6.length c6] w':=by
 have hM:=fun W => moved_calls x.f1 fr dst W hs
 have hW:=fun W => path_Within.calls x.f1 dst (withinB x.f1 dst) W (within_f x.f1 dst)
 have pc1 : w.cell? ⟨g,1,none⟩ = some (.string x.f1):=(blk_cell hp 1).trans rfl
 have pf1:=blk_frozen hp 1
 unfold carryS
 unfold movedS at hM
 cases hb : withinB x.f1 fr with
 | false =>
  simp only [hb,Bool.false_eq_true,if_false] at hM ⊢
  obtain ⟨b,hbb⟩ : ∃ b,withinB x.f1 dst = b:=⟨_,rfl⟩
  rw [hbb] at hW ⊢
  clear hbb
  go_enter Tryz.func123,Tryz.ntmps123
  go_wp2_with (fail)
  refine (hM w).mono ?_
  rintro e w1 ⟨rfl,hb1⟩
  have q1 : w1.cell? ⟨g,1,none⟩ = some (.string x.f1):=(blk_cell (blk_below hp hb1) 1).trans rfl
  go_wp2_with (fail)
  refine (hW w1).mono ?_
  rintro e w2 ⟨rfl,m,rfl⟩
  go_wp2
  go_ret
  exact ⟨rfl,Left1.of_below hp (pw_below_drewN hb1 m)⟩
 | true =>
  simp only [hb,if_true] at hM ⊢
  go_enter Tryz.func123,Tryz.ntmps123
  go_wp2_with (fail)
  refine (hM w).mono ?_
  rintro e w1 ⟨rfl,hb1⟩
  have q1 : w1.cell? ⟨g,1,none⟩ = some (.string x.f1):=(blk_cell (blk_below hp hb1) 1).trans rfl
  have qf1:=blk_frozen (blk_below hp hb1) 1
  go_wp2
  go_ret
  exact ⟨rfl,Left1.set (i:=1) (Left1.of_below hp hb1)⟩
theorem Left1.of_drew {w w1 : World} {g : Nat} {c : Array Value} (h : Left1 w.drew g c w1) : Left1 w g c w1:=⟨h.p,h.size,h.other,fun B w0 hb h1 => h.below B w0 hb.drew h1⟩
set_option maxHeartbeats 2000000 in
set_option maxRecDepth 100000 in
theorem rule1_calls (p q : S25) (A5 : Option Addr) (c5 : Nat) (A6 : Option Addr) (c6 : Nat) (B5 : Option Addr) (d5 : Nat) (B6 : Option Addr) (d6 : Nat) (gp gq : Nat) (hne : gp ≠ gq) (w : World)
  (hp : w.heap[gp]? = some (.cells #[.int .i64 p.f0,.string p.f1,.string p.f2,.string p.f3,.int .i64 p.f4,.slice A5 p.f5.length c5,.slice A6 p.f6.length c6] 25 (0,0))) (hq : w.heap[gq]? = some (.cells #[.int .i64 q.f0,.string q.f1,.string q.f2,.string q.f3,.int .i64 q.f4,.slice B5 q.f5.length d5,.slice B6 q.f6.length d6] 25 (0,0))) (hs : q.f2.size + p.f1.size ≤ 140737488355328) :
  Calls Tryz.prog 122 #[.pointer (some ⟨gp,0,none⟩),.pointer (some ⟨gq,0,none⟩)] w fun e w' => e = .returned (.bool (carryS p.f1 q.f1 q.f2).2) ∧ Left2 w gp gq (cs { p with f1:=(carryS p.f1 q.f1 q.f2).1 } A5 c5 A6 c6) (cs q B5 d5 B6 d6) w':=by
 have pc0 : w.cell? ⟨gp,0,none⟩ = some (.int .i64 p.f0):=(blk_cell hp 0).trans rfl
 have pf0:=blk_frozen hp 0
 have pc1 : w.cell? ⟨gp,1,none⟩ = some (.string p.f1):=(blk_cell hp 1).trans rfl
 have pf1:=blk_frozen hp 1
 have pc2 : w.cell? ⟨gp,2,none⟩ = some (.string p.f2):=(blk_cell hp 2).trans rfl
 have pf2:=blk_frozen hp 2
 have pc3 : w.cell? ⟨gp,3,none⟩ = some (.string p.f3):=(blk_cell hp 3).trans rfl
 have pf3:=blk_frozen hp 3
 have pc4 : w.cell? ⟨gp,4,none⟩ = some (.int .i64 p.f4):=(blk_cell hp 4).trans rfl
 have pf4:=blk_frozen hp 4
 have pc5 : w.cell? ⟨gp,5,none⟩ = some (.slice A5 p.f5.length c5):=(blk_cell hp 5).trans rfl
 have pf5:=blk_frozen hp 5
 have pc6 : w.cell? ⟨gp,6,none⟩ = some (.slice A6 p.f6.length c6):=(blk_cell hp 6).trans rfl
 have pf6:=blk_frozen hp 6
 have qc0 : w.cell? ⟨gq,0,none⟩ = some (.int .i64 q.f0):=(blk_cell hq 0).trans rfl
 have qf0:=blk_frozen hq 0
 have qc1 : w.cell? ⟨gq,1,none⟩ = some (.string q.f1):=(blk_cell hq 1).trans rfl
 have qf1:=blk_frozen hq 1
 have qc2 : w.cell? ⟨gq,2,none⟩ = some (.string q.f2):=(blk_cell hq 2).trans rfl
 have qf2:=blk_frozen hq 2
 have qc3 : w.cell? ⟨gq,3,none⟩ = some (.string q.f3):=(blk_cell hq 3).trans rfl
 have qf3:=blk_frozen hq 3
 have qc4 : w.cell? ⟨gq,4,none⟩ = some (.int .i64 q.f4):=(blk_cell hq 4).trans rfl
 have qf4:=blk_frozen hq 4
 have qc5 : w.cell? ⟨gq,5,none⟩ = some (.slice B5 q.f5.length d5):=(blk_cell hq 5).trans rfl
 have qf5:=blk_frozen hq 5
 have qc6 : w.cell? ⟨gq,6,none⟩ = some (.slice B6 q.f6.length d6):=(blk_cell hq 6).trans rfl
 have qf6:=blk_frozen hq 6
 go_enter Tryz.func122,Tryz.ntmps122
 go_wp2
 all_goals go_region_with (go_at_call 123; refine (carry_calls p A5 c5 A6 c6 gp q.f1 q.f2 _ hs (by exact hp)).mono ?_; rintro e w1 ⟨rfl,hb1⟩)
 all_goals go_wp2
 all_goals go_ret
 all_goals exact ⟨rfl,Left1.two_p hne hq (by repeat (first | exact hb1 | refine Left1.drew ?_ | refine Left1.of_drew ?_))⟩
set_option maxHeartbeats 2000000 in
set_option maxRecDepth 100000 in
theorem rule2_calls (p q : S25) (A5 : Option Addr) (c5 : Nat) (A6 : Option Addr) (c6 : Nat) (B5 : Option Addr) (d5 : Nat) (B6 : Option Addr) (d6 : Nat) (gp gq : Nat) (hne : gp ≠ gq) (w : World)
  (hp : w.heap[gp]? = some (.cells #[.int .i64 p.f0,.string p.f1,.string p.f2,.string p.f3,.int .i64 p.f4,.slice A5 p.f5.length c5,.slice A6 p.f6.length c6] 25 (0,0))) (hq : w.heap[gq]? = some (.cells #[.int .i64 q.f0,.string q.f1,.string q.f2,.string q.f3,.int .i64 q.f4,.slice B5 q.f5.length d5,.slice B6 q.f6.length d6] 25 (0,0))) (hs : p.f1.size + q.f1.size ≤ 140737488355328) :
  Calls Tryz.prog 124 #[.pointer (some ⟨gp,0,none⟩),.pointer (some ⟨gq,0,none⟩)] w fun e w' => e = .returned (.bool (carryS q.f1 p.f2 p.f1).2) ∧ Left2 w gp gq (cs p A5 c5 A6 c6) (cs { q with f1:=(carryS q.f1 p.f2 p.f1).1 } B5 d5 B6 d6) w':=by
 have pc0 : w.cell? ⟨gp,0,none⟩ = some (.int .i64 p.f0):=(blk_cell hp 0).trans rfl
 have pf0:=blk_frozen hp 0
 have pc1 : w.cell? ⟨gp,1,none⟩ = some (.string p.f1):=(blk_cell hp 1).trans rfl
 have pf1:=blk_frozen hp 1
 have pc2 : w.cell? ⟨gp,2,none⟩ = some (.string p.f2):=(blk_cell hp 2).trans rfl
 have pf2:=blk_frozen hp 2
 have pc3 : w.cell? ⟨gp,3,none⟩ = some (.string p.f3):=(blk_cell hp 3).trans rfl
 have pf3:=blk_frozen hp 3
 have pc4 : w.cell? ⟨gp,4,none⟩ = some (.int .i64 p.f4):=(blk_cell hp 4).trans rfl
 have pf4:=blk_frozen hp 4
 have pc5 : w.cell? ⟨gp,5,none⟩ = some (.slice A5 p.f5.length c5):=(blk_cell hp 5).trans rfl
 have pf5:=blk_frozen hp 5
 have pc6 : w.cell? ⟨gp,6,none⟩ = some (.slice A6 p.f6.length c6):=(blk_cell hp 6).trans rfl
 have pf6:=blk_frozen hp 6
 have qc0 : w.cell? ⟨gq,0,none⟩ = some (.int .i64 q.f0):=(blk_cell hq 0).trans rfl
 have qf0:=blk_frozen hq 0
 have qc1 : w.cell? ⟨gq,1,none⟩ = some (.string q.f1):=(blk_cell hq 1).trans rfl
 have qf1:=blk_frozen hq 1
 have qc2 : w.cell? ⟨gq,2,none⟩ = some (.string q.f2):=(blk_cell hq 2).trans rfl
 have qf2:=blk_frozen hq 2
 have qc3 : w.cell? ⟨gq,3,none⟩ = some (.string q.f3):=(blk_cell hq 3).trans rfl
 have qf3:=blk_frozen hq 3
 have qc4 : w.cell? ⟨gq,4,none⟩ = some (.int .i64 q.f4):=(blk_cell hq 4).trans rfl
 have qf4:=blk_frozen hq 4
 have qc5 : w.cell? ⟨gq,5,none⟩ = some (.slice B5 q.f5.length d5):=(blk_cell hq 5).trans rfl
 have qf5:=blk_frozen hq 5
 have qc6 : w.cell? ⟨gq,6,none⟩ = some (.slice B6 q.f6.length d6):=(blk_cell hq 6).trans rfl
 have qf6:=blk_frozen hq 6
 go_enter Tryz.func124,Tryz.ntmps124
 go_wp2
 all_goals go_region_with (go_at_call 123; refine (carry_calls q B5 d5 B6 d6 gq p.f2 p.f1 _ hs (by exact hq)).mono ?_; rintro e w1 ⟨rfl,hb1⟩)
 all_goals go_wp2
 all_goals go_ret
 all_goals exact ⟨rfl,Left1.two_q hne hp (by repeat (first | exact hb1 | refine Left1.drew ?_ | refine Left1.of_drew ?_))⟩
end Go.Proofs.YthhohbidjhcjeaaGreatDoor.H

namespace Go.Proofs.YthhohbidjhcjeaaGreatDoor.H
open Go.RowKit Go.Proofs.YthhohbidjhcjeaaGreatDoorW.PrintWords Go.Proofs.YthhohbidjhcjeaaGreatDoorW.PrintLast Go.Proofs.YthhohbidjhcjeaaGreatDoorW.PrintMore
open Go.Proofs.YthhohbidjhcjeaaGreatDoor.Q Go.Proofs.YthhohbidjhcjeaaGreatDoor.Pl

abbrev zeroC : Array Value:=#[.int .i64 0,.string ⟨#[]⟩,.string ⟨#[]⟩,.string ⟨#[]⟩,.int .i64 0,.slice none 0 0,.slice none 0 0]
/-- The four boxes of Commute: the two patches, and the two results. -/
structure St (w : World) (cp cq : Array Value) (W : World) : Prop where
 p : W.heap[w.heap.size]? = some (.cells cp 25 (0,0))
 q : W.heap[w.heap.size + 1]? = some (.cells cq 25 (0,0))
 x : W.heap[w.heap.size + 1 + 1]? = some (.cells zeroC 25 (0,0))
 y : W.heap[w.heap.size + 1 + 1 + 1]? = some (.cells zeroC 25 (0,0))
 below : Below w.heap.size w W
theorem St.start (w : World) (cp cq : Array Value) : St w cp cq ((((w.alloc (.cells cp 25)).alloc (.cells cq 25)).alloc (.cells zeroC 25)).alloc (.cells zeroC 25)):=by
 refine ⟨blk_alloc (blk_alloc (blk_alloc (blk_new w _) _) _) _,?_,?_,?_,?_⟩
 ·have h:=blk_alloc (blk_alloc (blk_new (w.alloc (.cells cp 25)) (.cells cq 25)) (.cells zeroC 25)) (.cells zeroC 25)
  simpa using h
 ·have h:=blk_alloc (blk_new ((w.alloc (.cells cp 25)).alloc (.cells cq 25)) (.cells zeroC 25)) (.cells zeroC 25)
  simpa using h
 ·have h:=blk_new (((w.alloc (.cells cp 25)).alloc (.cells cq 25)).alloc (.cells zeroC 25)) (.cells zeroC 25)
  simpa using h
 ·exact ((((Below.refl _ w).alloc (Nat.le_refl _) _).alloc (by simp) _).alloc (by simp; omega) _).alloc (by simp; omega) _
theorem St.drew {w W : World} {cp cq : Array Value} (h : St w cp cq W) : St w cp cq W.drew:=⟨h.p,h.q,h.x,h.y,h.below.drew⟩
theorem St.later {w W W' : World} {cp cq : Array Value} (h : St w cp cq W) (hb : Below W.heap.size W W') : St w cp cq W' :=
 ⟨blk_below h.p hb,blk_below h.q hb,blk_below h.x hb,blk_below h.y hb,h.below.trans (hb.mono h.below.size)⟩
theorem St.left {w W W' : World} {cp cq cp' cq' : Array Value} (h : St w cp cq W) (k : Left2 W w.heap.size (w.heap.size + 1) cp' cq' W') : St w cp' cq' W' :=
 ⟨k.p,k.q,(k.other _ (blk_lt h.x) (by omega) (by omega)).trans h.x,(k.other _ (blk_lt h.y) (by omega) (by omega)).trans h.y,k.below _ _ h.below (Nat.le_refl _) (Nat.le_succ _)⟩
theorem right_st (x : S25) (A5 : Option Addr) (c5 : Nat) (A6 : Option Addr) (c6 : Nat) (w W : World) (cp cq : Array Value) (hx : Okp x) (hr : Rd w x A5 c5 A6 c6) (h : St w cp cq W) :
  Calls Tryz.prog 25 #[.agg #[.int .i64 x.f0,.string x.f1,.string x.f2,.string x.f3,.int .i64 x.f4,.slice A5 x.f5.length c5,.slice A6 x.f6.length c6]] W fun e W' => e = .returned (.bool (primB x)) ∧ St w cp cq W':=by
 obtain ⟨k,hk⟩:=(prim_right x hx).rounds
 refine (prim_Right.calls k _ _ _ _ _ _ _ _ _ _ _ _ W (Kd.C_below hr.g5 h.below) hr.l5 (Kd.C_below hr.g6 h.below) hr.l6 hk).mono ?_
 rintro e W' ⟨rfl,hb⟩
 exact ⟨rfl,h.later hb⟩
/-- A patch's class. -/
def classS (x : S25) : Int:=if x.f0 = 10 then 2 else if x.f0 ≥ 7 then 1 else 0
theorem class_st (x : S25) (A5 : Option Addr) (c5 : Nat) (A6 : Option Addr) (c6 : Nat) (w W : World) (cp cq : Array Value) (hr : Rd w x A5 c5 A6 c6) (h : St w cp cq W) :
  Calls Tryz.prog 79 #[.agg #[.int .i64 x.f0,.string x.f1,.string x.f2,.string x.f3,.int .i64 x.f4,.slice A5 x.f5.length c5,.slice A6 x.f6.length c6]] W fun e W' => e = .returned (.int .i64 (classS x)) ∧ St w cp cq W':=by
 have hk : commute_class.f x.f0 x.f1 x.f2 x.f3 x.f4 x.f5 x.f6 = some (classS x):=by
  unfold commute_class.f classS
  split
  ·rfl
  ·split <;> rfl
 refine (commute_class.calls _ _ _ _ _ _ _ _ _ _ _ _ W (Kd.C_below hr.g5 h.below) hr.l5 (Kd.C_below hr.g6 h.below) hr.l6 hk).mono ?_
 rintro e W' ⟨rfl,hb⟩
 exact ⟨rfl,h.later hb⟩
/-- The table of the rules. -/
def rulesV : Array Value:=#[.func (.func 119) #[] #[],.func (.func 120) #[] #[],.func (.func 119) #[] #[],.func (.func 120) #[] #[],.func (.func 121) #[] #[],.func (.func 122) #[] #[],.func (.func 119) #[] #[],.func (.func 124) #[] #[],.func (.func 119) #[] #[]]
set_option maxRecDepth 100000 in
theorem rules_calls (w : World) : Calls Tryz.prog 78 #[] w fun e w' => e = .returned (.agg rulesV) ∧ Below w.heap.size w w':=by
 go_enter Tryz.func78,Tryz.ntmps78
 go_wp2
 refine bodyPost_ret (v:=.agg rulesV) ?_ rfl ⟨rfl,?_⟩
 ·simp [results,Tryz.results78,go_sem,rulesV]
 ·exact (Below.refl _ w).alloc (Nat.le_refl _) _
theorem rules_st (w W : World) (cp cq : Array Value) (h : St w cp cq W) : Calls Tryz.prog 78 #[] W fun e W' => e = .returned (.agg rulesV) ∧ St w cp cq W' :=
 (rules_calls W).mono (fun _ _ ⟨he,hb⟩ => ⟨he,h.later hb⟩)
/-- Where the orders of a region meet: what follows is shown once, of every world that meets S. -/
theorem cutG {S G : World → Prop} {goal : Prop} (h : (∀ W,S W → G W) → goal) (h2 : ∀ W,S W → G W) : goal:=h h2
theorem wpAny_at {P : Program} {md : Region.Mode} {ops : Array Oper} {Q : Exit → Act → World → Prop} {fuel : Nat} {l l' : Array Bool} {a : Act} {w : World} (h : l = l') (hh : wpAny P md ops Q fuel l' a w) : wpAny P md ops Q fuel l a w:=h ▸ hh
theorem frozen7 {W : World} {g : Nat} {c : Array Value} (h : W.heap[g]? = some (.cells c 25 (0,0))) : W.frozen? ⟨g,0,none⟩ = false ∧ W.frozen? ⟨g,1,none⟩ = false ∧ W.frozen? ⟨g,2,none⟩ = false ∧ W.frozen? ⟨g,3,none⟩ = false ∧ W.frozen? ⟨g,4,none⟩ = false ∧ W.frozen? ⟨g,5,none⟩ = false ∧ W.frozen? ⟨g,6,none⟩ = false:=⟨blk_frozen h 0,blk_frozen h 1,blk_frozen h 2,blk_frozen h 3,blk_frozen h 4,blk_frozen h 5,blk_frozen h 6⟩
/-- .. and behind what is laid beside it. -/
theorem deep1 {W : World} {g : Nat} {v0 v1 v2 v3 v4 v5 v6 : Value} (h : W.heap[g]? = some (.cells #[v0,v1,v2,v3,v4,v5,v6] 25 (0,0))) : (∀ o,(W.alloc o).cell? ⟨g,0,none⟩ = some v0) ∧ (∀ o,(W.alloc o).cell? ⟨g,1,none⟩ = some v1) ∧ (∀ o,(W.alloc o).cell? ⟨g,2,none⟩ = some v2) ∧ (∀ o,(W.alloc o).cell? ⟨g,3,none⟩ = some v3) ∧ (∀ o,(W.alloc o).cell? ⟨g,4,none⟩ = some v4) ∧ (∀ o,(W.alloc o).cell? ⟨g,5,none⟩ = some v5) ∧ (∀ o,(W.alloc o).cell? ⟨g,6,none⟩ = some v6) :=
 ⟨fun o => (blk_cell (blk_alloc h o) 0).trans rfl,fun o => (blk_cell (blk_alloc h o) 1).trans rfl,fun o => (blk_cell (blk_alloc h o) 2).trans rfl,fun o => (blk_cell (blk_alloc h o) 3).trans rfl,fun o => (blk_cell (blk_alloc h o) 4).trans rfl,fun o => (blk_cell (blk_alloc h o) 5).trans rfl,fun o => (blk_cell (blk_alloc h o) 6).trans rfl⟩
theorem deep2 {W : World} {g : Nat} {v0 v1 v2 v3 v4 v5 v6 : Value} (h : W.heap[g]? = some (.cells #[v0,v1,v2,v3,v4,v5,v6] 25 (0,0))) : (∀ o o',((W.alloc o).alloc o').cell? ⟨g,0,none⟩ = some v0) ∧ (∀ o o',((W.alloc o).alloc o').cell? ⟨g,1,none⟩ = some v1) ∧ (∀ o o',((W.alloc o).alloc o').cell? ⟨g,2,none⟩ = some v2) ∧ (∀ o o',((W.alloc o).alloc o').cell? ⟨g,3,none⟩ = some v3) ∧ (∀ o o',((W.alloc o).alloc o').cell? ⟨g,4,none⟩ = some v4) ∧ (∀ o o',((W.alloc o).alloc o').cell? ⟨g,5,none⟩ = some v5) ∧ (∀ o o',((W.alloc o).alloc o').cell? ⟨g,6,none⟩ = some v6) :=
 ⟨fun o o' => (blk_cell (blk_alloc (blk_alloc h o) o') 0).trans rfl,fun o o' => (blk_cell (blk_alloc (blk_alloc h o) o') 1).trans rfl,fun o o' => (blk_cell (blk_alloc (blk_alloc h o) o') 2).trans rfl,fun o o' => (blk_cell (blk_alloc (blk_alloc h o) o') 3).trans rfl,fun o o' => (blk_cell (blk_alloc (blk_alloc h o) o') 4).trans rfl,fun o o' => (blk_cell (blk_alloc (blk_alloc h o) o') 5).trans rfl,fun o o' => (blk_cell (blk_alloc (blk_alloc h o) o') 6).trans rfl⟩
/-- A patch written into a box. -/
theorem set7 {W : World} {g : Nat} {c : Array Value} (h : W.heap[g]? = some (.cells c 25 (0,0))) (hc : c.size = 7) (v0 v1 v2 v3 v4 v5 v6 : Value) : (((((((W.setCell ⟨g,0,none⟩ v0).setCell ⟨g,1,none⟩ v1).setCell ⟨g,2,none⟩ v2).setCell ⟨g,3,none⟩ v3).setCell ⟨g,4,none⟩ v4).setCell ⟨g,5,none⟩ v5).setCell ⟨g,6,none⟩ v6).heap[g]? = some (.cells #[v0,v1,v2,v3,v4,v5,v6] 25 (0,0)):=by
 refine (blk_set (blk_set (blk_set (blk_set (blk_set (blk_set (blk_set h 0 v0) 1 v1) 2 v2) 3 v3) 4 v4) 5 v5) 6 v6).trans ?_
 refine congrArg (fun a => some (Obj.cells a 25 (0,0))) ?_
 obtain ⟨l⟩:=c
 match l,hc with
 | [a0,a1,a2,a3,a4,a5,a6],_ => rfl
theorem keep7 {W : World} {g k : Nat} (hk : k ≠ g) (v0 v1 v2 v3 v4 v5 v6 : Value) : (((((((W.setCell ⟨g,0,none⟩ v0).setCell ⟨g,1,none⟩ v1).setCell ⟨g,2,none⟩ v2).setCell ⟨g,3,none⟩ v3).setCell ⟨g,4,none⟩ v4).setCell ⟨g,5,none⟩ v5).setCell ⟨g,6,none⟩ v6).heap[k]? = W.heap[k]?:=by
 rw [Below.heap_setCell _ _ _ _ hk,Below.heap_setCell _ _ _ _ hk,Below.heap_setCell _ _ _ _ hk,Below.heap_setCell _ _ _ _ hk,Below.heap_setCell _ _ _ _ hk,Below.heap_setCell _ _ _ _ hk,Below.heap_setCell _ _ _ _ hk]
theorem below7 {W w : World} {g B : Nat} (hb : Below B w W) (hg : B ≤ g) (v0 v1 v2 v3 v4 v5 v6 : Value) : Below B w (((((((W.setCell ⟨g,0,none⟩ v0).setCell ⟨g,1,none⟩ v1).setCell ⟨g,2,none⟩ v2).setCell ⟨g,3,none⟩ v3).setCell ⟨g,4,none⟩ v4).setCell ⟨g,5,none⟩ v5).setCell ⟨g,6,none⟩ v6) :=
 Below.setCell (Below.setCell (Below.setCell (Below.setCell (Below.setCell (Below.setCell (Below.setCell hb hg _) hg _) hg _) hg _) hg _) hg _) hg _
theorem drew_at {W : World} {k : Nat} {o : Option Obj} (h : W.heap[k]? = o) : W.drew.heap[k]? = o:=h
theorem ret24 {tmps : Array Value} {W : World} {gx gy : Nat} {x0 x1 x2 x3 x4 x5 x6 y0 y1 y2 y3 y4 y5 y6 r : Value} (h4 : tmps[4]? = some (.pointer (some ⟨gx,0,none⟩))) (h5 : tmps[5]? = some (.pointer (some ⟨gy,0,none⟩))) (h6 : tmps[6]? = some r)
  (hx : W.heap[gx]? = some (.cells #[x0,x1,x2,x3,x4,x5,x6] 25 (0,0))) (hy : W.heap[gy]? = some (.cells #[y0,y1,y2,y3,y4,y5,y6] 25 (0,0))) :
  (results Tryz.f42 tmps).run Tryz.prog W = .ok (.tuple #[.agg #[x0,x1,x2,x3,x4,x5,x6],.agg #[y0,y1,y2,y3,y4,y5,y6],r]) W:=by
 have xc0 : W.cell? ⟨gx,0,none⟩ = some x0:=(blk_cell hx 0).trans rfl
 have xc1 : W.cell? ⟨gx,1,none⟩ = some x1:=(blk_cell hx 1).trans rfl
 have xc2 : W.cell? ⟨gx,2,none⟩ = some x2:=(blk_cell hx 2).trans rfl
 have xc3 : W.cell? ⟨gx,3,none⟩ = some x3:=(blk_cell hx 3).trans rfl
 have xc4 : W.cell? ⟨gx,4,none⟩ = some x4:=(blk_cell hx 4).trans rfl
 have xc5 : W.cell? ⟨gx,5,none⟩ = some x5:=(blk_cell hx 5).trans rfl
 have xc6 : W.cell? ⟨gx,6,none⟩ = some x6:=(blk_cell hx 6).trans rfl
 have yc0 : W.cell? ⟨gy,0,none⟩ = some y0:=(blk_cell hy 0).trans rfl
 have yc1 : W.cell? ⟨gy,1,none⟩ = some y1:=(blk_cell hy 1).trans rfl
 have yc2 : W.cell? ⟨gy,2,none⟩ = some y2:=(blk_cell hy 2).trans rfl
 have yc3 : W.cell? ⟨gy,3,none⟩ = some y3:=(blk_cell hy 3).trans rfl
 have yc4 : W.cell? ⟨gy,4,none⟩ = some y4:=(blk_cell hy 4).trans rfl
 have yc5 : W.cell? ⟨gy,5,none⟩ = some y5:=(blk_cell hy 5).trans rfl
 have yc6 : W.cell? ⟨gy,6,none⟩ = some y6:=(blk_cell hy 6).trans rfl
 simp [results,Tryz.results42,go_sem, *]
end Go.Proofs.YthhohbidjhcjeaaGreatDoor.H
namespace Go.Proofs.YthhohbidjhcjeaaGreatDoor.Pl
open Go.RowKit Go.Proofs.YthhohbidjhcjeaaGreatDoorW.PrintWords Go.Proofs.YthhohbidjhcjeaaGreatDoorW.PrintMore Go.Proofs.YthhohbidjhcjeaaGreatDoor.Q Go.Proofs.YthhohbidjhcjeaaGreatDoor.H

/-! ### texts in texts -/
theorem carry_yes {s fr dst : ByteArray} (h : withinB s fr = true) : carryS s fr dst = (mv s fr dst,true):=by unfold carryS mv; rw [if_pos h]
theorem carry_no {s fr dst : ByteArray} (h : withinB s fr = false) : carryS s fr dst = (s,!withinB s dst):=by unfold carryS; rw [if_neg (by rw [h]; simp)]
theorem carry_back {s fr dst : ByteArray} (h : (carryS s fr dst).2 = true) : carryS (carryS s fr dst).1 dst fr = (s,true):=by
 cases h1 : withinB s fr with
 | true =>
  rw [carry_yes h1,carry_yes (mv_within dst h1)]
  show (mv (mv s fr dst) dst fr,true) = _
  rw [mv_back dst h1]
 | false =>
  rw [carry_no h1] at h ⊢
  have h2 : withinB s dst = false:=by
   have h' : (!withinB s dst) = true:=h
   simpa using h'
  show carryS s dst fr = _
  rw [carry_no h2,h1]
  rfl

/-! ### the rules -/
/-- What the program's rule makes of two patches: the first and the second as they are then, and whether they may be. -/
def ruleS (p q : S25) : S25 × S25 × Bool :=
 if p.f0 = 10 then
  if q.f0 = 10 then (p,q,apartL (pathsS p) (pathsS q))
  else if 7 ≤ q.f0 then (p,{ q with f1:=(carryS q.f1 p.f2 p.f1).1 },(carryS q.f1 p.f2 p.f1).2)
  else (p,q,apartL (pathsS p) (pathsS q))
 else if 7 ≤ p.f0 then
  if q.f0 = 10 then ({ p with f1:=(carryS p.f1 q.f1 q.f2).1 },q,(carryS p.f1 q.f1 q.f2).2)
  else if 7 ≤ q.f0 then bothS p q
  else (p,q,p.f1.toList != q.f1.toList)
 else
  if q.f0 = 10 then (p,q,apartL (pathsS p) (pathsS q))
  else if 7 ≤ q.f0 then (p,q,p.f1.toList != q.f1.toList)
  else (p,q,apartL (pathsS p) (pathsS q))
/-- Two patches the other way about. -/
def comm (p q : S25) : S25 × S25 × Bool :=
 if primB p = true ∧ primB q = true ∧ (ruleS p q).2.2 = true ∧ primB (ruleS p q).1 = true ∧ primB (ruleS p q).2.1 = true then ((ruleS p q).2.1,(ruleS p q).1,true) else (z25,z25,false)
/-- What is known of two patches that were commuted. -/
structure Yes (p q a b : S25) : Prop where
 hp : primB p = true
 hq : primB q = true
 ha : primB a = true
 hb : primB b = true
 r : ruleS p q = (b,a,true)
theorem comm_of {p q a b : S25} (h : Yes p q a b) : comm p q = (a,b,true):=by
 unfold comm
 rw [h.r]
 exact if_pos ⟨h.hp,h.hq,rfl,h.hb,h.ha⟩
theorem comm_or (p q : S25) : comm p q = (z25,z25,false) ∨ ∃ a b,Yes p q a b ∧ comm p q = (a,b,true):=by
 by_cases h : primB p = true ∧ primB q = true ∧ (ruleS p q).2.2 = true ∧ primB (ruleS p q).1 = true ∧ primB (ruleS p q).2.1 = true
 ·refine .inr ⟨(ruleS p q).2.1,(ruleS p q).1,⟨h.1,h.2.1,h.2.2.2.2,h.2.2.2.1,?_⟩,if_pos h⟩
  have e : ruleS p q = ((ruleS p q).1,(ruleS p q).2.1,(ruleS p q).2.2):=rfl
  rw [h.2.2.1] at e
  exact e
 ·exact .inl (if_neg h)
/-- Kinds of right patches, and the places of their lines. -/
structure Rt (x : S25) : Prop where
 lo : 1 ≤ x.f0
 hi : x.f0 ≤ 10
 a0 : 0 ≤ x.f4
 a1 : x.f4 ≤ 1073741824
theorem rt_of {x : S25} (h : primB x = true) : Rt x:=by
 obtain ⟨h1,h2⟩:=primB_lo h
 have h4 : 0 ≤ x.f4 ∧ x.f4 ≤ 1073741824:=by
  by_cases h7 : x.f0 = 7
  ·unfold primB kindB at h
   rw [if_neg (by omega),if_neg (by omega)] at h
   by_cases h3 : x.f3.toList = ([] : List UInt8)
   ·rw [if_pos h3,if_neg (by omega),if_pos h7] at h
    simp only [Bool.and_eq_true,decide_eq_true_eq] at h
    omega
   ·rw [if_neg h3,Bool.and_false] at h
    cases h
  ·unfold primB listedB at h
   have hn : (x.f0 != 7) = true:=by simpa using h7
   rw [hn,Bool.and_true] at h
   simp only [Bool.and_eq_true,Bool.not_eq_true',Bool.or_eq_false_iff] at h
   have : x.f4 = 0:=by simpa using h.1.2.2
   omega
 exact ⟨h1,h2,h4.1,h4.2⟩
theorem apartL_comm (a b : List ByteArray) : apartL a b = apartL b a:=by
 apply Bool.eq_iff_iff.2
 simp only [apartL,List.all_eq_true]
 exact ⟨fun h y hy x hx => (apart_comm _ _).trans (h x hx y hy),fun h x hx y hy => (apart_comm _ _).trans (h y hy x hx)⟩
theorem bne_comm (a b : List UInt8) : (a != b) = (b != a):=bne_comm' a b
/-- Two changes, and back. -/
theorem both_back {p q a b : S25} (hp : Rt p) (hq : Rt q) (sp : Ok24 p) (sq : Ok24 q) (h : bothS p q = (b,a,true)) : bothS a b = (q,p,true):=by
 obtain ⟨p0,p1,p2,p3,p4,p5,p6⟩:=p
 obtain ⟨q0,q1,q2,q3,q4,q5,q6⟩:=q
 obtain ⟨-,-,hp0,hp1⟩:=hp
 obtain ⟨-,-,hq0,hq1⟩:=hq
 obtain ⟨sp5,sp6⟩:=sp
 obtain ⟨sq5,sq6⟩:=sq
 dsimp only at hp0 hp1 hq0 hq1 sp5 sp6 sq5 sq6
 unfold bothS at h
 dsimp only at h
 have e1 : wrap64 (q4 - (p6.length : Int)) = q4 - (p6.length : Int):=wrap_id (by omega) (by omega)
 have e2 : wrap64 (p4 - (q5.length : Int)) = p4 - (q5.length : Int):=wrap_id (by omega) (by omega)
 have e3 : wrap64 ((p5.length : Int) - (p6.length : Int)) = (p5.length : Int) - (p6.length : Int):=wrap_id (by omega) (by omega)
 have e4 : wrap64 (q4 + ((p5.length : Int) - (p6.length : Int))) = q4 + ((p5.length : Int) - (p6.length : Int)):=wrap_id (by omega) (by omega)
 have e5 : wrap64 ((q6.length : Int) - (q5.length : Int)) = (q6.length : Int) - (q5.length : Int):=wrap_id (by omega) (by omega)
 have e6 : wrap64 (p4 + ((q6.length : Int) - (q5.length : Int))) = p4 + ((q6.length : Int) - (q5.length : Int)):=wrap_id (by omega) (by omega)
 rw [e1,e2,e3,e4,e5,e6] at h
 by_cases h1 : p1.toList = q1.toList
 ·rw [if_pos h1] at h
  by_cases h7 : p0 = 7 ∧ q0 = 7
  ·rw [if_pos h7] at h
   by_cases c1 : q4 - (p6.length : Int) > p4
   ·rw [if_pos c1] at h
    simp only [Prod.mk.injEq] at h
    obtain ⟨rfl,rfl,-⟩:=h
    unfold bothS
    dsimp only
    have f1 : wrap64 (p4 - (q6.length : Int)) = p4 - (q6.length : Int):=wrap_id (by omega) (by omega)
    have f2 : wrap64 (q4 + ((p5.length : Int) - (p6.length : Int)) - (p5.length : Int)) = q4 - (p6.length : Int):=by rw [wrap_id (by omega) (by omega)]; omega
    have f3 : wrap64 ((p6.length : Int) - (p5.length : Int)) = (p6.length : Int) - (p5.length : Int):=wrap_id (by omega) (by omega)
    have f4 : wrap64 (q4 + ((p5.length : Int) - (p6.length : Int)) + ((p6.length : Int) - (p5.length : Int))) = q4:=by rw [wrap_id (by omega) (by omega)]; omega
    rw [f1,f2,f3,f4,if_pos h1.symm,if_pos ⟨h7.2,h7.1⟩,if_neg (by omega),if_pos c1]
   ·rw [if_neg c1] at h
    by_cases c2 : p4 - (q5.length : Int) > q4
    ·rw [if_pos c2] at h
     simp only [Prod.mk.injEq] at h
     obtain ⟨rfl,rfl,-⟩:=h
     unfold bothS
     dsimp only
     have f1 : wrap64 (p4 + ((q6.length : Int) - (q5.length : Int)) - (q6.length : Int)) = p4 - (q5.length : Int):=by rw [wrap_id (by omega) (by omega)]; omega
     have f3 : wrap64 ((q5.length : Int) - (q6.length : Int)) = (q5.length : Int) - (q6.length : Int):=wrap_id (by omega) (by omega)
     have f4 : wrap64 (p4 + ((q6.length : Int) - (q5.length : Int)) + ((q5.length : Int) - (q6.length : Int))) = p4:=by rw [wrap_id (by omega) (by omega)]; omega
     rw [f1,f3,f4,if_pos h1.symm,if_pos ⟨h7.2,h7.1⟩,if_pos c2]
    ·rw [if_neg c2] at h
     simp at h
  ·rw [if_neg h7] at h
   simp at h
 ·rw [if_neg h1] at h
  simp only [Prod.mk.injEq] at h
  obtain ⟨rfl,rfl,-⟩:=h
  unfold bothS
  dsimp only
  rw [if_neg (fun e => h1 e.symm)]
theorem prod3 {α β γ : Type} {a a' : α} {b b' : β} {c c' : γ} (h : (a,b,c) = (a',b',c')) : a = a' ∧ b = b' ∧ c = c':=by
 cases h
 exact ⟨rfl,rfl,rfl⟩
theorem both_kind {p q a b : S25} (h : bothS p q = (b,a,true)) : b.f0 = p.f0 ∧ a.f0 = q.f0:=by
 unfold bothS at h
 repeat' split at h
 all_goals first
  | (obtain ⟨rfl,rfl,-⟩:=prod3 h; exact ⟨rfl,rfl⟩)
  | (have:=(prod3 h).2.2; cases this)
/-- A rule, and back. -/
theorem rule_back {p q a b : S25} (hp : Rt p) (hq : Rt q) (sp : Ok24 p) (sq : Ok24 q) (h : ruleS p q = (b,a,true)) : ruleS a b = (q,p,true):=by
 unfold ruleS at h
 by_cases cp : p.f0 = 10
 ·rw [if_pos cp] at h
  by_cases cq : q.f0 = 10
  ·rw [if_pos cq] at h
   obtain ⟨rfl,rfl,hl⟩:=prod3 h
   unfold ruleS
   rw [if_pos cq,if_pos cp,apartL_comm,hl]
  ·rw [if_neg cq] at h
   by_cases dq : 7 ≤ q.f0
   ·rw [if_pos dq] at h
    obtain ⟨rfl,rfl,hl⟩:=prod3 h
    unfold ruleS
    dsimp only
    rw [if_neg cq,if_pos dq,if_pos cp,carry_back hl]
   ·rw [if_neg dq] at h
    obtain ⟨rfl,rfl,hl⟩:=prod3 h
    unfold ruleS
    rw [if_neg cq,if_neg dq,if_pos cp,apartL_comm,hl]
 ·rw [if_neg cp] at h
  by_cases dp : 7 ≤ p.f0
  ·rw [if_pos dp] at h
   by_cases cq : q.f0 = 10
   ·rw [if_pos cq] at h
    obtain ⟨rfl,rfl,hl⟩:=prod3 h
    unfold ruleS
    dsimp only
    rw [if_pos cq,if_neg cp,if_pos dp,carry_back hl]
   ·rw [if_neg cq] at h
    by_cases dq : 7 ≤ q.f0
    ·rw [if_pos dq] at h
     have hb:=both_back hp hq sp sq h
     have k:=both_kind h
     unfold ruleS
     rw [k.2,k.1,if_neg cq,if_pos dq,if_neg cp,if_pos dp,hb]
    ·rw [if_neg dq] at h
     obtain ⟨rfl,rfl,hl⟩:=prod3 h
     unfold ruleS
     rw [if_neg cq,if_neg dq,if_neg cp,if_pos dp,bne_comm,hl]
  ·rw [if_neg dp] at h
   by_cases cq : q.f0 = 10
   ·rw [if_pos cq] at h
    obtain ⟨rfl,rfl,hl⟩:=prod3 h
    unfold ruleS
    rw [if_pos cq,if_neg cp,if_neg dp,apartL_comm,hl]
   ·rw [if_neg cq] at h
    by_cases dq : 7 ≤ q.f0
    ·rw [if_pos dq] at h
     obtain ⟨rfl,rfl,hl⟩:=prod3 h
     unfold ruleS
     rw [if_neg cq,if_pos dq,if_neg cp,if_neg dp,bne_comm,hl]
    ·rw [if_neg dq] at h
     obtain ⟨rfl,rfl,hl⟩:=prod3 h
     unfold ruleS
     rw [if_neg cq,if_neg dq,if_neg cp,if_neg dp,apartL_comm,hl]
/-- What was commuted is commuted back to what it was. -/
theorem yes_back {p q a b : S25} (sp : Ok24 p) (sq : Ok24 q) (h : Yes p q a b) : Yes a b p q:=⟨h.ha,h.hb,h.hp,h.hq,rule_back (rt_of h.hp) (rt_of h.hq) sp sq h.r⟩

/-! ### what undoes them -/
theorem inv_ten {x : S25} (h : x.f0 = 10) : invS x = ⟨10,x.f2,x.f1,x.f3,x.f4,x.f5,x.f6⟩:=by
 unfold invS
 rw [if_neg (by omega),if_neg (by omega),if_neg (by omega),if_neg (by omega),if_pos h]
theorem inv_change {x : S25} (h7 : 7 ≤ x.f0) (h9 : x.f0 ≤ 9) (s : ByteArray) : (invS x).f0 = x.f0 ∧ (invS x).f1 = x.f1 ∧ invS { x with f1:=s } = { invS x with f1:=s }:=by
 obtain ⟨x0,x1,x2,x3,x4,x5,x6⟩:=x
 dsimp only at h7 h9
 have : x0 = 7 ∨ x0 = 8 ∨ x0 = 9:=by omega
 rcases this with rfl | rfl | rfl <;> exact ⟨rfl,rfl,rfl⟩
theorem inv_low {x : S25} (h1 : 1 ≤ x.f0) (h6 : x.f0 ≤ 6) : ¬ (invS x).f0 = 10 ∧ ¬ 7 ≤ (invS x).f0 ∧ (invS x).f1 = x.f1:=by
 have e : invS x = ⟨opp x.f0,x.f1,x.f2,x.f3,x.f4,x.f5,x.f6⟩:=by
  unfold invS
  rw [if_neg (by omega),if_neg (by omega),if_neg (by omega),if_neg (by omega),if_neg (by omega)]
 have ho : 1 ≤ opp x.f0 ∧ opp x.f0 ≤ 6:=by
  unfold opp
  split <;> omega
 rw [e]
 exact ⟨by show ¬ opp x.f0 = 10; omega,by show ¬ 7 ≤ opp x.f0; omega,rfl⟩
theorem inv_paths {x : S25} (h : Rt x) : ∀ s,s ∈ pathsS (invS x) ↔ s ∈ pathsS x:=by
 intro s
 by_cases c : x.f0 = 10
 ·rw [inv_ten c]
  unfold pathsS
  rw [if_pos rfl,if_pos c]
  simp only [List.mem_cons,List.not_mem_nil,or_false]
  exact ⟨fun h => h.symm,fun h => h.symm⟩
 ·by_cases d : 7 ≤ x.f0
  ·have hi:=h.hi
   obtain ⟨e0,e1,-⟩:=inv_change d (by omega) x.f1
   unfold pathsS
   rw [if_neg (by rw [e0]; exact c),if_neg c,e1]
  ·obtain ⟨e0,-,e1⟩:=inv_low h.lo (by omega)
   unfold pathsS
   rw [if_neg e0,if_neg c,e1]
theorem apartL_inv {p q : S25} (hp : Rt p) (hq : Rt q) : apartL (pathsS (invS p)) (pathsS (invS q)) = apartL (pathsS p) (pathsS q):=by
 apply Bool.eq_iff_iff.2
 simp only [apartL,List.all_eq_true]
 exact ⟨fun h x hx y hy => h x ((inv_paths hp x).2 hx) y ((inv_paths hq y).2 hy),fun h x hx y hy => h x ((inv_paths hp x).1 hx) y ((inv_paths hq y).1 hy)⟩
theorem inv_seven (x1 x2 x3 : ByteArray) (x4 : Int) (x5 x6 : List ByteArray) : invS ⟨7,x1,x2,x3,x4,x5,x6⟩ = ⟨7,x1,x2,x3,x4,x6,x5⟩:=rfl
theorem both_inv {p q a b : S25} (hp : Rt p) (hq : Rt q) (dp : 7 ≤ p.f0) (ep : p.f0 ≤ 9) (dq : 7 ≤ q.f0) (eq : q.f0 ≤ 9) (sp : Ok24 p) (sq : Ok24 q) (h : bothS p q = (b,a,true)) : bothS (invS b) (invS a) = (invS p,invS q,true):=by
 by_cases h1 : p.f1.toList = q.f1.toList
 ·by_cases h7 : p.f0 = 7 ∧ q.f0 = 7
  ·obtain ⟨p0,p1,p2,p3,p4,p5,p6⟩:=p
   obtain ⟨q0,q1,q2,q3,q4,q5,q6⟩:=q
   obtain ⟨-,-,hp0,hp1⟩:=hp
   obtain ⟨-,-,hq0,hq1⟩:=hq
   obtain ⟨sp5,sp6⟩:=sp
   obtain ⟨sq5,sq6⟩:=sq
   obtain ⟨g1,g2⟩:=h7
   dsimp only at hp0 hp1 hq0 hq1 sp5 sp6 sq5 sq6 h1 g1 g2
   subst g1 g2
   unfold bothS at h
   dsimp only at h
   have e1 : wrap64 (q4 - (p6.length : Int)) = q4 - (p6.length : Int):=wrap_id (by omega) (by omega)
   have e2 : wrap64 (p4 - (q5.length : Int)) = p4 - (q5.length : Int):=wrap_id (by omega) (by omega)
   have e3 : wrap64 ((p5.length : Int) - (p6.length : Int)) = (p5.length : Int) - (p6.length : Int):=wrap_id (by omega) (by omega)
   have e4 : wrap64 (q4 + ((p5.length : Int) - (p6.length : Int))) = q4 + ((p5.length : Int) - (p6.length : Int)):=wrap_id (by omega) (by omega)
   have e5 : wrap64 ((q6.length : Int) - (q5.length : Int)) = (q6.length : Int) - (q5.length : Int):=wrap_id (by omega) (by omega)
   have e6 : wrap64 (p4 + ((q6.length : Int) - (q5.length : Int))) = p4 + ((q6.length : Int) - (q5.length : Int)):=wrap_id (by omega) (by omega)
   rw [e1,e2,e3,e4,e5,e6,if_pos h1,if_pos ⟨rfl,rfl⟩] at h
   by_cases c1 : q4 - (p6.length : Int) > p4
   ·rw [if_pos c1] at h
    obtain ⟨rfl,rfl,-⟩:=prod3 h
    rw [inv_seven,inv_seven,inv_seven]
    unfold bothS
    dsimp only
    have f2 : wrap64 (q4 + ((p5.length : Int) - (p6.length : Int)) - (p5.length : Int)) = q4 - (p6.length : Int):=by rw [wrap_id (by omega) (by omega)]; omega
    have f3 : wrap64 ((p6.length : Int) - (p5.length : Int)) = (p6.length : Int) - (p5.length : Int):=wrap_id (by omega) (by omega)
    have f4 : wrap64 (q4 + ((p5.length : Int) - (p6.length : Int)) + ((p6.length : Int) - (p5.length : Int))) = q4:=by rw [wrap_id (by omega) (by omega)]; omega
    rw [f2,f3,f4,if_pos h1,if_pos ⟨rfl,rfl⟩,if_pos c1]
   ·rw [if_neg c1] at h
    by_cases c2 : p4 - (q5.length : Int) > q4
    ·rw [if_pos c2] at h
     obtain ⟨rfl,rfl,-⟩:=prod3 h
     rw [inv_seven,inv_seven,inv_seven]
     unfold bothS
     dsimp only
     have f0 : wrap64 (q4 - (p5.length : Int)) = q4 - (p5.length : Int):=wrap_id (by omega) (by omega)
     have f1 : wrap64 (p4 + ((q6.length : Int) - (q5.length : Int)) - (q6.length : Int)) = p4 - (q5.length : Int):=by rw [wrap_id (by omega) (by omega)]; omega
     have f3 : wrap64 ((q5.length : Int) - (q6.length : Int)) = (q5.length : Int) - (q6.length : Int):=wrap_id (by omega) (by omega)
     have f4 : wrap64 (p4 + ((q6.length : Int) - (q5.length : Int)) + ((q5.length : Int) - (q6.length : Int))) = p4:=by rw [wrap_id (by omega) (by omega)]; omega
     rw [f0,f1,f3,f4,if_pos h1,if_pos ⟨rfl,rfl⟩,if_neg (by omega),if_pos c2]
    ·rw [if_neg c2] at h
     have:=(prod3 h).2.2
     cases this
  ·unfold bothS at h
   rw [if_pos h1,if_neg h7] at h
   have:=(prod3 h).2.2
   cases this
 ·unfold bothS at h
  rw [if_neg h1] at h
  obtain ⟨rfl,rfl,-⟩:=prod3 h
  obtain ⟨-,e1,-⟩:=inv_change dp ep p.f1
  obtain ⟨-,e2,-⟩:=inv_change dq eq q.f1
  unfold bothS
  rw [e1,e2,if_neg h1]
/-- What undoes two patches that were commuted. -/
theorem rule_inv {p q a b : S25} (hp : Rt p) (hq : Rt q) (sp : Ok24 p) (sq : Ok24 q) (h : ruleS p q = (b,a,true)) : ruleS (invS b) (invS a) = (invS p,invS q,true):=by
 have hi:=hp.hi
 have hj:=hq.hi
 have hl:=hp.lo
 have hm:=hq.lo
 unfold ruleS at h
 by_cases cp : p.f0 = 10
 ·rw [if_pos cp] at h
  by_cases cq : q.f0 = 10
  ·rw [if_pos cq] at h
   obtain ⟨rfl,rfl,hl⟩:=prod3 h
   unfold ruleS
   rw [if_pos (by rw [inv_ten cp]),if_pos (by rw [inv_ten cq]),apartL_inv hp hq,hl]
  ·rw [if_neg cq] at h
   by_cases dq : 7 ≤ q.f0
   ·rw [if_pos dq] at h
    obtain ⟨rfl,rfl,hl⟩:=prod3 h
    obtain ⟨e0,e1,e2⟩:=inv_change dq (by omega) (carryS q.f1 p.f2 p.f1).1
    rw [e2]
    unfold ruleS
    dsimp only
    have t1 : (invS p).f1 = p.f2:=by rw [inv_ten cp]
    have t2 : (invS p).f2 = p.f1:=by rw [inv_ten cp]
    rw [if_pos (by rw [inv_ten cp]),if_neg (by rw [e0]; exact cq),if_pos (by rw [e0]; exact dq),t1,t2,carry_back hl,← e1]
   ·rw [if_neg dq] at h
    obtain ⟨rfl,rfl,hl⟩:=prod3 h
    obtain ⟨e0,e1,-⟩:=inv_low hm (by omega : q.f0 ≤ 6)
    unfold ruleS
    rw [if_pos (by rw [inv_ten cp]),if_neg e0,if_neg e1,apartL_inv hp hq,hl]
 ·rw [if_neg cp] at h
  by_cases dp : 7 ≤ p.f0
  ·rw [if_pos dp] at h
   by_cases cq : q.f0 = 10
   ·rw [if_pos cq] at h
    obtain ⟨rfl,rfl,hl⟩:=prod3 h
    obtain ⟨e0,e1,e2⟩:=inv_change dp (by omega) (carryS p.f1 q.f1 q.f2).1
    rw [e2]
    unfold ruleS
    dsimp only
    have t1 : (invS q).f1 = q.f2:=by rw [inv_ten cq]
    have t2 : (invS q).f2 = q.f1:=by rw [inv_ten cq]
    rw [if_neg (by rw [e0]; exact cp),if_pos (by rw [e0]; exact dp),if_pos (by rw [inv_ten cq]),t1,t2,carry_back hl,← e1]
   ·rw [if_neg cq] at h
    by_cases dq : 7 ≤ q.f0
    ·rw [if_pos dq] at h
     have hb:=both_inv hp hq dp (by omega) dq (by omega) sp sq h
     have k:=both_kind h
     have kb : (invS b).f0 = p.f0:=by rw [(inv_change (by rw [k.1]; exact dp) (by rw [k.1]; omega) b.f1).1,k.1]
     have ka : (invS a).f0 = q.f0:=by rw [(inv_change (by rw [k.2]; exact dq) (by rw [k.2]; omega) a.f1).1,k.2]
     unfold ruleS
     rw [kb,ka,if_neg cp,if_pos dp,if_neg cq,if_pos dq,hb]
    ·rw [if_neg dq] at h
     obtain ⟨rfl,rfl,hl⟩:=prod3 h
     obtain ⟨e0,e1,-⟩:=inv_change dp (by omega) p.f1
     obtain ⟨u0,u7,u1⟩:=inv_low hm (by omega : q.f0 ≤ 6)
     unfold ruleS
     rw [if_neg (by rw [e0]; exact cp),if_pos (by rw [e0]; exact dp),if_neg u0,if_neg u7,e1,u1,hl]
  ·rw [if_neg dp] at h
   obtain ⟨v0,v7,v1⟩:=inv_low hl (by omega : p.f0 ≤ 6)
   by_cases cq : q.f0 = 10
   ·rw [if_pos cq] at h
    obtain ⟨rfl,rfl,hl⟩:=prod3 h
    unfold ruleS
    rw [if_neg v0,if_neg v7,if_pos (by rw [inv_ten cq]),apartL_inv hp hq,hl]
   ·rw [if_neg cq] at h
    by_cases dq : 7 ≤ q.f0
    ·rw [if_pos dq] at h
     obtain ⟨rfl,rfl,hl⟩:=prod3 h
     obtain ⟨e0,e1,-⟩:=inv_change dq (by omega) q.f1
     unfold ruleS
     rw [if_neg v0,if_neg v7,if_neg (by rw [e0]; exact cq),if_pos (by rw [e0]; exact dq),e1,v1,hl]
    ·rw [if_neg dq] at h
     obtain ⟨rfl,rfl,hl⟩:=prod3 h
     obtain ⟨u0,u7,u1⟩:=inv_low hm (by omega : q.f0 ≤ 6)
     unfold ruleS
     rw [if_neg v0,if_neg v7,if_neg u0,if_neg u7,apartL_inv hp hq,hl]
theorem yes_inv {p q a b : S25} (sp : Ok24 p) (sq : Ok24 q) (h : Yes p q a b) : Yes (invS b) (invS a) (invS q) (invS p) :=
 ⟨primB_inv h.hb,primB_inv h.ha,primB_inv h.hq,primB_inv h.hp,rule_inv (rt_of h.hp) (rt_of h.hq) sp sq h.r⟩

/-! ### patches apart -/
theorem rule_apart {p q : S25} (h : apartL (pathsS p) (pathsS q) = true) : ruleS p q = (p,q,true):=by
 have all : ∀ x ∈ pathsS p,∀ y ∈ pathsS q,apartB x y = true:=by simpa only [apartL,List.all_eq_true] using h
 have m1 : ∀ x : S25,x.f1 ∈ pathsS x:=fun x => by unfold pathsS; split <;> simp
 have m2 : ∀ x : S25,x.f0 = 10 → x.f2 ∈ pathsS x:=fun x hx => by unfold pathsS; rw [if_pos hx]; simp
 have a11:=all _ (m1 p) _ (m1 q)
 have hne : ¬ p.f1.toList = q.f1.toList:=fun e => by
  rw [toList_inj e,apart_self] at a11
  cases a11
 unfold ruleS
 by_cases cp : p.f0 = 10
 ·rw [if_pos cp]
  by_cases cq : q.f0 = 10
  ·rw [if_pos cq,h]
  ·rw [if_neg cq]
   by_cases dq : 7 ≤ q.f0
   ·have a21:=all _ (m2 p cp) _ (m1 q)
    rw [if_pos dq,carry_no (apart_within a21).2,(apart_within a11).2]
    rfl
   ·rw [if_neg dq,h]
 ·rw [if_neg cp]
  by_cases dp : 7 ≤ p.f0
  ·rw [if_pos dp]
   by_cases cq : q.f0 = 10
   ·have a12:=all _ (m1 p) _ (m2 q cq)
    rw [if_pos cq,carry_no (apart_within a11).1,(apart_within a12).1]
    rfl
   ·rw [if_neg cq]
    by_cases dq : 7 ≤ q.f0
    ·rw [if_pos dq]
     unfold bothS
     rw [if_neg hne]
    ·rw [if_neg dq,show (p.f1.toList != q.f1.toList) = true by simpa using hne]
  ·rw [if_neg dp]
   by_cases cq : q.f0 = 10
   ·rw [if_pos cq,h]
   ·rw [if_neg cq]
    by_cases dq : 7 ≤ q.f0
    ·rw [if_pos dq,show (p.f1.toList != q.f1.toList) = true by simpa using hne]
    ·rw [if_neg dq,h]
theorem comm_apart {p q : S25} (hp : primB p = true) (hq : primB q = true) (h : apartL (pathsS p) (pathsS q) = true) : comm p q = (q,p,true):=comm_of ⟨hp,hq,hq,hp,rule_apart h⟩
theorem apartL_self (p : S25) : apartL (pathsS p) (pathsS p) = false:=by
 have m1 : p.f1 ∈ pathsS p:=by unfold pathsS; split <;> simp
 cases h : apartL (pathsS p) (pathsS p) with
 | false => rfl
 | true =>
  have all : ∀ x ∈ pathsS p,∀ y ∈ pathsS p,apartB x y = true:=by simpa only [apartL,List.all_eq_true] using h
  have:=all _ m1 _ m1
  rw [apart_self] at this
  cases this
theorem rule_own {p : S25} (hp : Rt p) (sp : Ok24 p) : (ruleS p p).2.2 = false:=by
 unfold ruleS
 by_cases cp : p.f0 = 10
 ·rw [if_pos cp,if_pos cp,apartL_self]
 ·rw [if_neg cp]
  by_cases dp : 7 ≤ p.f0
  ·rw [if_pos dp,if_neg cp,if_pos dp]
   obtain ⟨p0,p1,p2,p3,p4,p5,p6⟩:=p
   obtain ⟨-,-,h0,h1⟩:=hp
   obtain ⟨s5,s6⟩:=sp
   dsimp only at h0 h1 s5 s6
   unfold bothS
   dsimp only
   rw [if_pos rfl]
   have e1 : wrap64 (p4 - (p6.length : Int)) = p4 - (p6.length : Int):=wrap_id (by omega) (by omega)
   have e2 : wrap64 (p4 - (p5.length : Int)) = p4 - (p5.length : Int):=wrap_id (by omega) (by omega)
   rw [e1,e2]
   by_cases h7 : p0 = 7 ∧ p0 = 7
   ·rw [if_pos h7,if_neg (by omega),if_neg (by omega)]
   ·rw [if_neg h7]
  ·rw [if_neg dp,if_neg cp,if_neg dp,apartL_self]
theorem comm_own {p : S25} (sp : Ok24 p) : (comm p p).2.2 = false:=by
 rcases comm_or p p with h | ⟨a,b,h,-⟩
 ·rw [h]
 ·have:=rule_own (rt_of h.hp) sp
  rw [h.r] at this
  cases this

/-! ### the reference -/
def apR (m : S25) (s : ByteArray) : Bool:=if apartB m.f1 s = true then apartB m.f2 s else false
/-- What the reference's Commute makes of two right patches: the first and the second as they are then, and whether they may be. -/
def refStep (p q : S25) : S25 × S25 × Bool :=
 if p.f0 = 7 ∧ q.f0 = 7 ∧ p.f1.toList = q.f1.toList then ((refLines p q).2.1,(refLines p q).1,(refLines p q).2.2)
 else if p.f0 = 10 ∧ q.f0 = 10 then (p,q,apR p q.f1 && apR p q.f2)
 else if p.f0 = 10 ∧ 7 ≤ q.f0 ∧ q.f0 ≤ 9 then (p,{ q with f1:=(carryS q.f1 p.f2 p.f1).1 },(carryS q.f1 p.f2 p.f1).2)
 else if (7 ≤ p.f0 ∧ p.f0 ≤ 9) ∧ q.f0 = 10 then ({ p with f1:=(carryS p.f1 q.f1 q.f2).1 },q,(carryS p.f1 q.f1 q.f2).2)
 else if p.f0 = 10 then (p,q,apR p q.f1)
 else if q.f0 = 10 then (p,q,apR q p.f1)
 else if p.f0 ≤ 6 ∧ q.f0 ≤ 6 then (p,q,apartB p.f1 q.f1)
 else (p,q,p.f1.toList != q.f1.toList)
def refComm (p q : S25) : S25 × S25 × Bool :=
 if primB p = true ∧ primB q = true ∧ (refStep p q).2.2 = true ∧ primB (refStep p q).1 = true ∧ primB (refStep p q).2.1 = true then ((refStep p q).2.1,(refStep p q).1,true) else (z25,z25,false)
theorem pathsS_ten {x : S25} (h : x.f0 = 10) : pathsS x = [x.f1,x.f2]:=if_pos h
theorem pathsS_not {x : S25} (h : ¬ x.f0 = 10) : pathsS x = [x.f1]:=if_neg h
theorem apR_eq (m : S25) (s : ByteArray) : apR m s = (apartB m.f1 s && apartB m.f2 s):=by unfold apR; cases apartB m.f1 s <;> rfl
/-- The reference's step is the program's rule, where it may be. -/
theorem step_rule {p q : S25} (hp : Rt p) (hq : Rt q) (sp : Ok24 p) (sq : Ok24 q) : refStep p q = ruleS p q ∨ (refStep p q).2.2 = false ∧ (ruleS p q).2.2 = false:=by
 have hi:=hp.hi
 have hj:=hq.hi
 by_cases h7 : p.f0 = 7 ∧ q.f0 = 7 ∧ p.f1.toList = q.f1.toList
 ·unfold refStep
  rw [if_pos h7]
  obtain ⟨g1,g2,g3⟩:=h7
  have er : ruleS p q = bothS p q:=by
   unfold ruleS
   rw [if_neg (by omega),if_pos (by omega),if_neg (by omega),if_pos (by omega)]
  have eb : bothS p q = (if wrap64 (q.f4 - (p.f6.length : Int)) > p.f4 then (p,{ q with f4:=wrap64 (q.f4 + wrap64 ((p.f5.length : Int) - (p.f6.length : Int))) },true)
   else if wrap64 (p.f4 - (q.f5.length : Int)) > q.f4 then ({ p with f4:=wrap64 (p.f4 + wrap64 ((q.f6.length : Int) - (q.f5.length : Int))) },q,true)
   else (p,q,false)):=by
   unfold bothS
   rw [if_pos g3,if_pos ⟨g1,g2⟩]
  rw [er,eb]
  unfold refLines
  obtain ⟨p0,p1,p2,p3,p4,p5,p6⟩:=p
  obtain ⟨q0,q1,q2,q3,q4,q5,q6⟩:=q
  obtain ⟨-,-,hp0,hp1⟩:=hp
  obtain ⟨-,-,hq0,hq1⟩:=hq
  obtain ⟨sp5,sp6⟩:=sp
  obtain ⟨sq5,sq6⟩:=sq
  dsimp only at hp0 hp1 hq0 hq1 sp5 sp6 sq5 sq6 ⊢
  have e1 : wrap64 (q4 - (p6.length : Int)) = q4 - (p6.length : Int):=wrap_id (by omega) (by omega)
  have e2 : wrap64 (p4 - (q5.length : Int)) = p4 - (q5.length : Int):=wrap_id (by omega) (by omega)
  have e3 : wrap64 ((p5.length : Int) - (p6.length : Int)) = (p5.length : Int) - (p6.length : Int):=wrap_id (by omega) (by omega)
  have e4 : wrap64 (q4 + ((p5.length : Int) - (p6.length : Int))) = q4 - (p6.length : Int) + (p5.length : Int):=by rw [wrap_id (by omega) (by omega)]; omega
  have e4' : wrap64 (q4 - (p6.length : Int) + (p5.length : Int)) = q4 - (p6.length : Int) + (p5.length : Int):=wrap_id (by omega) (by omega)
  have e5 : wrap64 ((q6.length : Int) - (q5.length : Int)) = (q6.length : Int) - (q5.length : Int):=wrap_id (by omega) (by omega)
  have e6 : wrap64 (p4 + ((q6.length : Int) - (q5.length : Int))) = p4 - (q5.length : Int) + (q6.length : Int):=by rw [wrap_id (by omega) (by omega)]; omega
  have e6' : wrap64 (p4 - (q5.length : Int) + (q6.length : Int)) = p4 - (q5.length : Int) + (q6.length : Int):=wrap_id (by omega) (by omega)
  rw [e1,e2,e3,e4,e4',e5,e6,e6']
  by_cases c1 : q4 - (p6.length : Int) > p4
  ·rw [if_pos ⟨by omega,c1⟩,if_pos c1]
   exact .inl rfl
  ·rw [if_neg (fun e => c1 e.2),if_neg c1]
   by_cases c2 : p4 - (q5.length : Int) > q4
   ·rw [if_pos ⟨by omega,c2⟩,if_pos c2]
    exact .inl rfl
   ·rw [if_neg (fun e => c2 e.2),if_neg c2]
    exact .inr ⟨rfl,rfl⟩
 ·left
  by_cases cp : p.f0 = 10
  ·by_cases cq : q.f0 = 10
   ·have el : refStep p q = (p,q,apR p q.f1 && apR p q.f2):=by
     unfold refStep
     rw [if_neg h7,if_pos ⟨cp,cq⟩]
    have er : ruleS p q = (p,q,apartL (pathsS p) (pathsS q)):=by
     unfold ruleS
     rw [if_pos cp,if_pos cq]
    rw [el,er,pathsS_ten cp,pathsS_ten cq,apR_eq,apR_eq]
    unfold apartL
    simp only [List.all_cons,List.all_nil,Bool.and_true]
    refine congrArg (fun t => (p,q,t)) ?_
    cases apartB p.f1 q.f1 <;> cases apartB p.f2 q.f1 <;> cases apartB p.f1 q.f2 <;> cases apartB p.f2 q.f2 <;> rfl
   ·by_cases dq : 7 ≤ q.f0
    ·have el : refStep p q = (p,{ q with f1:=(carryS q.f1 p.f2 p.f1).1 },(carryS q.f1 p.f2 p.f1).2):=by
      unfold refStep
      rw [if_neg h7,if_neg (fun e => cq e.2),if_pos ⟨cp,dq,by omega⟩]
     have er : ruleS p q = (p,{ q with f1:=(carryS q.f1 p.f2 p.f1).1 },(carryS q.f1 p.f2 p.f1).2):=by
      unfold ruleS
      rw [if_pos cp,if_neg cq,if_pos dq]
     rw [el,er]
    ·have el : refStep p q = (p,q,apR p q.f1):=by
      unfold refStep
      rw [if_neg h7,if_neg (fun e => cq e.2),if_neg (fun e => dq e.2.1),if_neg (fun e => cq e.2),if_pos cp]
     have er : ruleS p q = (p,q,apartL (pathsS p) (pathsS q)):=by
      unfold ruleS
      rw [if_pos cp,if_neg cq,if_neg dq]
     rw [el,er,pathsS_ten cp,pathsS_not cq,apR_eq]
     unfold apartL
     simp only [List.all_cons,List.all_nil,Bool.and_true]
  ·by_cases dp : 7 ≤ p.f0
   ·by_cases cq : q.f0 = 10
    ·have el : refStep p q = ({ p with f1:=(carryS p.f1 q.f1 q.f2).1 },q,(carryS p.f1 q.f1 q.f2).2):=by
      unfold refStep
      rw [if_neg h7,if_neg (fun e => cp e.1),if_neg (fun e => cp e.1),if_pos ⟨⟨dp,by omega⟩,cq⟩]
     have er : ruleS p q = ({ p with f1:=(carryS p.f1 q.f1 q.f2).1 },q,(carryS p.f1 q.f1 q.f2).2):=by
      unfold ruleS
      rw [if_neg cp,if_pos dp,if_pos cq]
     rw [el,er]
    ·by_cases dq : 7 ≤ q.f0
     ·have el : refStep p q = (p,q,p.f1.toList != q.f1.toList):=by
       unfold refStep
       rw [if_neg h7,if_neg (fun e => cp e.1),if_neg (fun e => cp e.1),if_neg (fun e => cq e.2),if_neg cp,if_neg cq,if_neg (fun e => by omega)]
      have er : ruleS p q = bothS p q:=by
       unfold ruleS
       rw [if_neg cp,if_pos dp,if_neg cq,if_pos dq]
      rw [el,er]
      unfold bothS
      by_cases h1 : p.f1.toList = q.f1.toList
      ·rw [if_pos h1,if_neg (fun e => h7 ⟨e.1,e.2,h1⟩),show (p.f1.toList != q.f1.toList) = false by simpa using h1]
      ·rw [if_neg h1,show (p.f1.toList != q.f1.toList) = true by simpa using h1]
     ·have el : refStep p q = (p,q,p.f1.toList != q.f1.toList):=by
       unfold refStep
       rw [if_neg h7,if_neg (fun e => cp e.1),if_neg (fun e => cp e.1),if_neg (fun e => cq e.2),if_neg cp,if_neg cq,if_neg (fun e => by omega)]
      have er : ruleS p q = (p,q,p.f1.toList != q.f1.toList):=by
       unfold ruleS
       rw [if_neg cp,if_pos dp,if_neg cq,if_neg dq]
      rw [el,er]
   ·by_cases cq : q.f0 = 10
    ·have el : refStep p q = (p,q,apR q p.f1):=by
      unfold refStep
      rw [if_neg h7,if_neg (fun e => cp e.1),if_neg (fun e => cp e.1),if_neg (fun e => dp e.1.1),if_neg cp,if_pos cq]
     have er : ruleS p q = (p,q,apartL (pathsS p) (pathsS q)):=by
      unfold ruleS
      rw [if_neg cp,if_neg dp,if_pos cq]
     rw [el,er,pathsS_not cp,pathsS_ten cq,apR_eq]
     unfold apartL
     simp only [List.all_cons,List.all_nil,Bool.and_true]
     rw [apart_comm q.f1,apart_comm q.f2]
    ·by_cases dq : 7 ≤ q.f0
     ·have el : refStep p q = (p,q,p.f1.toList != q.f1.toList):=by
       unfold refStep
       rw [if_neg h7,if_neg (fun e => cp e.1),if_neg (fun e => cp e.1),if_neg (fun e => cq e.2),if_neg cp,if_neg cq,if_neg (fun e => by omega)]
      have er : ruleS p q = (p,q,p.f1.toList != q.f1.toList):=by
       unfold ruleS
       rw [if_neg cp,if_neg dp,if_neg cq,if_pos dq]
      rw [el,er]
     ·have el : refStep p q = (p,q,apartB p.f1 q.f1):=by
       unfold refStep
       rw [if_neg h7,if_neg (fun e => cp e.1),if_neg (fun e => cp e.1),if_neg (fun e => cq e.2),if_neg cp,if_neg cq,if_pos ⟨by omega,by omega⟩]
      have er : ruleS p q = (p,q,apartL (pathsS p) (pathsS q)):=by
       unfold ruleS
       rw [if_neg cp,if_neg dp,if_neg cq,if_neg dq]
      rw [el,er,pathsS_not cp,pathsS_not cq]
      unfold apartL
      simp only [List.all_cons,List.all_nil,Bool.and_true]
theorem refComm_eq {p q : S25} (sp : Ok24 p) (sq : Ok24 q) : refComm p q = comm p q:=by
 unfold refComm comm
 by_cases hp : primB p = true
 ·by_cases hq : primB q = true
  ·rcases step_rule (rt_of hp) (rt_of hq) sp sq with h | ⟨h1,h2⟩
   ·rw [h]
   ·rw [if_neg (fun e => by rw [h1] at e; cases e.2.2.1),if_neg (fun e => by rw [h2] at e; cases e.2.2.1)]
  ·rw [if_neg (fun e => hq e.2.1),if_neg (fun e => hq e.2.1)]
 ·rw [if_neg (fun e => hp e.1),if_neg (fun e => hp e.1)]

/-! ### sizes -/
theorem prim_f1 {x : S25} (h : primB x = true) : x.f1.size ≤ 136:=by
 unfold primB at h
 simp only [Bool.and_eq_true] at h
 exact right_size h.1.1
theorem prim_f2 {x : S25} (h : primB x = true) (h10 : x.f0 = 10) : x.f2.size ≤ 136:=by
 unfold primB kindB at h
 rw [if_neg (by omega),if_neg (by omega)] at h
 by_cases h3 : x.f3.toList = ([] : List UInt8)
 ·rw [if_pos h3,if_pos h10] at h
  simp only [Bool.and_eq_true] at h
  exact right_size h.2.1
 ·rw [if_neg h3,Bool.and_false] at h
  cases h
theorem rule_keep {p q a b : S25} {r : Bool} (h : ruleS p q = (b,a,r)) : b = { p with f1:=b.f1,f4:=b.f4 } ∧ a = { q with f1:=a.f1,f4:=a.f4 }:=by
 unfold ruleS bothS at h
 repeat' split at h
 all_goals
  obtain ⟨rfl,rfl,-⟩:=prod3 h
  exact ⟨rfl,rfl⟩
theorem carry_size (s fr dst : ByteArray) : (carryS s fr dst).1.size ≤ dst.size + s.size:=by
 unfold carryS
 split
 ·show (dst ++ s.extract fr.size s.size).size ≤ _
  rw [ByteArray.size_append,ByteArray.size_extract]
  omega
 ·show s.size ≤ _
  omega
theorem both_f1 (p q : S25) : (bothS p q).1.f1 = p.f1 ∧ (bothS p q).2.1.f1 = q.f1:=by
 unfold bothS
 repeat' split
 all_goals exact ⟨rfl,rfl⟩
theorem rule_f1 {p q : S25} (hp : primB p = true) (hq : primB q = true) : (ruleS p q).1.f1.size ≤ 272 ∧ (ruleS p q).2.1.f1.size ≤ 272:=by
 have h1:=prim_f1 hp
 have h2:=prim_f1 hq
 have z : ∀ r : S25 × S25 × Bool,r.1.f1 = p.f1 ∧ r.2.1.f1 = q.f1 → r.1.f1.size ≤ 272 ∧ r.2.1.f1.size ≤ 272:=fun r h => by rw [h.1,h.2]; omega
 unfold ruleS
 by_cases cp : p.f0 = 10
 ·rw [if_pos cp]
  by_cases cq : q.f0 = 10
  ·rw [if_pos cq]
   exact z _ ⟨rfl,rfl⟩
  ·rw [if_neg cq]
   by_cases dq : 7 ≤ q.f0
   ·rw [if_pos dq]
    refine ⟨by show p.f1.size ≤ _; omega,?_⟩
    have:=carry_size q.f1 p.f2 p.f1
    show (carryS q.f1 p.f2 p.f1).1.size ≤ _
    omega
   ·rw [if_neg dq]
    exact z _ ⟨rfl,rfl⟩
 ·rw [if_neg cp]
  by_cases dp : 7 ≤ p.f0
  ·rw [if_pos dp]
   by_cases cq : q.f0 = 10
   ·rw [if_pos cq]
    refine ⟨?_,by show q.f1.size ≤ _; omega⟩
    have:=carry_size p.f1 q.f1 q.f2
    have:=prim_f2 hq cq
    show (carryS p.f1 q.f1 q.f2).1.size ≤ _
    omega
   ·rw [if_neg cq]
    by_cases dq : 7 ≤ q.f0
    ·rw [if_pos dq]
     exact z _ (both_f1 p q)
    ·rw [if_neg dq]
     exact z _ ⟨rfl,rfl⟩
  ·rw [if_neg dp]
   repeat' split
   all_goals exact z _ ⟨rfl,rfl⟩
theorem okp_rule {p q a b : S25} {r : Bool} (h : ruleS p q = (b,a,r)) (hp : primB p = true) (hq : primB q = true) (sp : Okp p) (sq : Okp q) : Okp b ∧ Okp a:=by
 have hf:=rule_f1 hp hq
 rw [h] at hf
 obtain ⟨h1,h2⟩:=rule_keep h
 obtain ⟨f1,f2⟩:=hf
 dsimp only at f1 f2
 constructor
 ·rw [h1]
  exact ⟨sp.ok,by show b.f1.size ≤ _; omega,sp.s2,sp.s3⟩
 ·rw [h2]
  exact ⟨sq.ok,by show a.f1.size ≤ _; omega,sq.s2,sq.s3⟩
theorem ok24_rule (p q : S25) : (Ok24 p → Ok24 (ruleS p q).1) ∧ (Ok24 q → Ok24 (ruleS p q).2.1):=by
 obtain ⟨h1,h2⟩:=rule_keep (p:=p) (q:=q) (a:=(ruleS p q).2.1) (b:=(ruleS p q).1) (r:=(ruleS p q).2.2) rfl
 constructor
 ·intro h
  rw [h1]
  exact h
 ·intro h
  rw [h2]
  exact h
theorem okp_yes {p q a b : S25} (h : Yes p q a b) (hp : Okp p) (hq : Okp q) : Okp a ∧ Okp b:=by
 obtain ⟨h1,h2⟩:=rule_keep h.r
 have ha:=prim_f1 h.ha
 have hb:=prim_f1 h.hb
 constructor
 ·rw [h2]
  exact ⟨hq.ok,by show a.f1.size ≤ _; omega,hq.s2,hq.s3⟩
 ·rw [h1]
  exact ⟨hp.ok,by show b.f1.size ≤ _; omega,hp.s2,hp.s3⟩
theorem okq_yes {p q a b : S25} (h : Yes p q a b) (hp : Okq p) (hq : Okq q) : Okq a ∧ Okq b:=by
 obtain ⟨ha,hb⟩:=okp_yes h hp.ok hq.ok
 obtain ⟨h1,h2⟩:=rule_keep h.r
 refine ⟨⟨ha,?_,?_⟩,⟨hb,?_,?_⟩⟩
 ·rw [h2]
  exact hq.l5
 ·rw [h2]
  exact hq.l6
 ·rw [h1]
  exact hp.l5
 ·rw [h1]
  exact hp.l6

/-! ### several -/
/-- A patch, and several behind it, the other way about. -/
def pastS : S25 → List S25 → Option (List S25 × S25)
 | p,[] => some ([],p)
 | p,x :: l => if (comm p x).2.2 = true then (pastS (comm p x).2.1 l).map (fun r => ((comm p x).1 :: r.1,r.2)) else none
def past (p : S25) (l : List S25) : List S25 × S25 × Bool:=match pastS p l with
 | some r => (r.1,r.2,true)
 | none => ([],z25,false)
theorem pastS_append : ∀ (a : List S25) (p : S25) (b : List S25),pastS p (a ++ b) = (pastS p a).bind (fun y => (pastS y.2 b).map (fun z => (y.1 ++ z.1,z.2)))
 | [],p,b => by
  show pastS p b = _
  simp only [pastS,Option.bind_some]
  cases pastS p b with
  | none => rfl
  | some z => rfl
 | x :: a,p,b => by
  simp only [List.cons_append,pastS]
  by_cases h : (comm p x).2.2 = true
  ·rw [if_pos h,if_pos h,pastS_append a]
   cases pastS (comm p x).2.1 a with
   | none => rfl
   | some y =>
    simp only [Option.map_some,Option.bind_some]
    cases pastS y.2 b with
    | none => rfl
    | some z => rfl
  ·rw [if_neg h,if_neg h]
   rfl
end Go.Proofs.YthhohbidjhcjeaaGreatDoor.Pl
namespace Go.Proofs.YthhohbidjhcjeaaGreatDoor.H
open Go.RowKit Go.Proofs.YthhohbidjhcjeaaGreatDoorW.PrintWords Go.Proofs.YthhohbidjhcjeaaGreatDoorW.PrintLast Go.Proofs.YthhohbidjhcjeaaGreatDoorW.PrintMore
open Go.Proofs.YthhohbidjhcjeaaGreatDoor.Q Go.Proofs.YthhohbidjhcjeaaGreatDoor.Pl
theorem tkV {P : Program} {md : Region.Mode} {ops : Array Oper} {Q : Exit → Act → World → Prop} {oi : Oper} {v : Value} {fuel : Nat} {listed : Array Bool} {a : Act} {w : World} (i : Nat) (N : Option Tmp) (hi : ops[i]? = some oi) (hN : oi.dst = N)
  (hc : (Region.noSelect ops && Region.free md ops listed i && (Region.ready md ops listed).contains i) = true) (hw : Region.wanted oi (yielded ops a.tmps) = true) (hy : ∀ w,(execOp a.eval oi).run P w = .ok (.value v) w)
  (h : wpAnyH P md ops Q (fun _ => True) fuel (listed.setIfInBounds i true) (a.put N v) w) (hQ : ∀ c a w,Q (.panic c) (a.put N v) w → Q (.panic c) a w:=by exact fun _ _ _ h => h) : wpAnyH P md ops Q (fun _ => True) (fuel + 1) listed a w:=by
 subst hN
 simp only [Bool.and_eq_true] at hc
 exact wpAnyH_take hi hc.1.1 hc.1.2 hc.2 hQ (Or.inl ⟨hw,fun w _ => hy w⟩) trivial h
theorem tkS {P : Program} {md : Region.Mode} {ops : Array Oper} {Q : Exit → Act → World → Prop} {oi : Oper} {fuel : Nat} {listed : Array Bool} {a : Act} {w : World} (i : Nat) (N : Option Tmp) (hi : ops[i]? = some oi) (hN : oi.dst = N)
  (hc : (Region.noSelect ops && Region.free md ops listed i && (Region.ready md ops listed).contains i) = true) (hw : Region.wanted oi (yielded ops a.tmps) = false)
  (h : wpAnyH P md ops Q (fun _ => True) fuel (listed.setIfInBounds i true) (a.put N undef) w) (hQ : ∀ c a w,Q (.panic c) (a.put N undef) w → Q (.panic c) a w:=by exact fun _ _ _ h => h) : wpAnyH P md ops Q (fun _ => True) (fuel + 1) listed a w:=by
 subst hN
 simp only [Bool.and_eq_true] at hc
 exact wpAnyH_take hi hc.1.1 hc.1.2 hc.2 hQ (Or.inr ⟨hw,rfl⟩) trivial h
theorem wpAnyH_at {P : Program} {md : Region.Mode} {ops : Array Oper} {Q : Exit → Act → World → Prop} {S : World → Prop} {fuel : Nat} {l l' : Array Bool} {a : Act} {w : World} (h : l = l') (hh : wpAnyH P md ops Q S fuel l' a w) : wpAnyH P md ops Q S fuel l a w:=h ▸ hh
def CmPost (w : World) (a b : S25) (A5 : Option Addr) (c5 : Nat) (A6 : Option Addr) (c6 : Nat) (B5 : Option Addr) (d5 : Nat) (B6 : Option Addr) (d6 : Nat) : Bool → Bool → Bool → Ending → World → Prop
 | true,true,true,e,w' => e = .returned (.tuple #[.agg (cs a B5 d5 B6 d6),.agg (cs b A5 c5 A6 c6),.bool true]) ∧ Below w.heap.size w w'
 | _,_,_,e,w' => e = .returned (.tuple #[.agg zeroC,.agg zeroC,.bool false]) ∧ Below w.heap.size w w'
set_option maxHeartbeats 8000000 in
set_option maxRecDepth 100000 in
theorem comm_np (p q : S25) (A5 : Option Addr) (c5 : Nat) (A6 : Option Addr) (c6 : Nat) (B5 : Option Addr) (d5 : Nat) (B6 : Option Addr) (d6 : Nat) (w : World) (hp : Okp p) (rp : Rd w p A5 c5 A6 c6) (b1 : primB p = false) :
  Calls Tryz.prog 42 #[.agg (cs p A5 c5 A6 c6),.agg (cs q B5 d5 B6 d6)] w fun e w' => e = .returned (.tuple #[.agg zeroC,.agg zeroC,.bool false]) ∧ Below w.heap.size w w':=by
 have RP : ∀ cp cq W,St w cp cq W → Calls Tryz.prog 25 #[.agg (cs p A5 c5 A6 c6)] W fun e W' => e = .returned (.bool false) ∧ St w cp cq W':=fun cp cq W h => by
  have h2:=right_st p A5 c5 A6 c6 w W cp cq hp rp h
  rwa [b1] at h2
 go_enter Tryz.func42,Tryz.ntmps42
 go_wp2
 have hst:=(St.start w (cs p A5 c5 A6 c6) (cs q B5 d5 B6 d6)).drew
 refine wp_region_held_drew (S:=fun _ => True) (by kernel_rfl) trivial (fun _ => ?_)
 apply cutG (S:=St w (cs p A5 c5 A6 c6) (cs q B5 d5 B6 d6))
 ·exact fun tail => tail _ hst
 clear hst
 intro w1 hst
 obtain ⟨pc0,pc1,pc2,pc3,pc4,pc5,pc6⟩:=cells7 hst.p
 refine wpAnyH_ready (rs:=[0]) (by kernel_rfl) (by simp) (AllReadyH.cons rfl (fun K hK => ?_) AllReadyH.nil)
 go_simp
 refine hK.out _ _ trivial (fun _ => ?_)
 clear hK K
 clear pc0 pc1 pc2 pc3 pc4 pc5 pc6
 refine wpAnyH_ready (rs:=[1]) (by kernel_rfl) (by simp) (AllReadyH.cons rfl (fun K hK => ?_) AllReadyH.nil)
 go_simp
 refine (RP _ _ _ hst).mono ?_
 rintro e w1 ⟨rfl,hst⟩
 refine hK.out _ _ trivial (fun _ => ?_)
 clear hK K
 refine tkV (v:=?_) 2 (some 9) rfl rfl (by kernel_rfl) rfl (fun W' => ?_) ?_
 rotate_left
 ·go_simp; (try with_reducible rfl)
 simp only [Act.put,List.setIfInBounds_toArray,List.set_cons_zero,List.set_cons_succ]
 refine tkV (v:=?_) 3 (some 10) rfl rfl (by kernel_rfl) rfl (fun W' => ?_) ?_
 rotate_left
 ·go_simp; (try with_reducible rfl)
 simp only [Act.put,List.setIfInBounds_toArray,List.set_cons_zero,List.set_cons_succ]
 refine tkS 4 (some 11) rfl rfl (by kernel_rfl) rfl ?_
 simp only [Act.put,List.setIfInBounds_toArray,List.set_cons_zero,List.set_cons_succ]
 refine tkS 5 (some 12) rfl rfl (by kernel_rfl) rfl ?_
 simp only [Act.put,List.setIfInBounds_toArray,List.set_cons_zero,List.set_cons_succ]
 refine tkS 6 (some 13) rfl rfl (by kernel_rfl) rfl ?_
 simp only [Act.put,List.setIfInBounds_toArray,List.set_cons_zero,List.set_cons_succ]
 refine tkV (v:=?_) 7 (some 14) rfl rfl (by kernel_rfl) rfl (fun W' => ?_) ?_
 rotate_left
 ·go_simp; (try with_reducible rfl)
 simp only [Act.put,List.setIfInBounds_toArray,List.set_cons_zero,List.set_cons_succ]
 refine tkV (v:=?_) 8 (some 15) rfl rfl (by kernel_rfl) rfl (fun W' => ?_) ?_
 rotate_left
 ·go_simp; (try with_reducible rfl)
 simp only [Act.put,List.setIfInBounds_toArray,List.set_cons_zero,List.set_cons_succ]
 refine tkS 9 (some 16) rfl rfl (by kernel_rfl) rfl ?_
 simp only [Act.put,List.setIfInBounds_toArray,List.set_cons_zero,List.set_cons_succ]
 refine tkS 10 (some 17) rfl rfl (by kernel_rfl) rfl ?_
 simp only [Act.put,List.setIfInBounds_toArray,List.set_cons_zero,List.set_cons_succ]
 refine tkS 11 (some 18) rfl rfl (by kernel_rfl) rfl ?_
 simp only [Act.put,List.setIfInBounds_toArray,List.set_cons_zero,List.set_cons_succ]
 refine tkS 12 (some 19) rfl rfl (by kernel_rfl) rfl ?_
 simp only [Act.put,List.setIfInBounds_toArray,List.set_cons_zero,List.set_cons_succ]
 refine tkS 13 (some 20) rfl rfl (by kernel_rfl) rfl ?_
 simp only [Act.put,List.setIfInBounds_toArray,List.set_cons_zero,List.set_cons_succ]
 refine tkS 14 (some 21) rfl rfl (by kernel_rfl) rfl ?_
 simp only [Act.put,List.setIfInBounds_toArray,List.set_cons_zero,List.set_cons_succ]
 refine tkS 15 (some 22) rfl rfl (by kernel_rfl) rfl ?_
 simp only [Act.put,List.setIfInBounds_toArray,List.set_cons_zero,List.set_cons_succ]
 refine tkS 16 (some 23) rfl rfl (by kernel_rfl) rfl ?_
 simp only [Act.put,List.setIfInBounds_toArray,List.set_cons_zero,List.set_cons_succ]
 refine tkS 17 (some 24) rfl rfl (by kernel_rfl) rfl ?_
 simp only [Act.put,List.setIfInBounds_toArray,List.set_cons_zero,List.set_cons_succ]
 refine tkV (v:=?_) 18 (some 25) rfl rfl (by kernel_rfl) rfl (fun W' => ?_) ?_
 rotate_left
 ·go_simp; (try with_reducible rfl)
 simp only [Act.put,List.setIfInBounds_toArray,List.set_cons_zero,List.set_cons_succ]
 refine tkV (v:=?_) 19 (some 26) rfl rfl (by kernel_rfl) rfl (fun W' => ?_) ?_
 rotate_left
 ·go_simp; (try with_reducible rfl)
 simp only [Act.put,List.setIfInBounds_toArray,List.set_cons_zero,List.set_cons_succ]
 refine tkS 20 (some 27) rfl rfl (by kernel_rfl) rfl ?_
 simp only [Act.put,List.setIfInBounds_toArray,List.set_cons_zero,List.set_cons_succ]
 refine tkS 21 (some 28) rfl rfl (by kernel_rfl) rfl ?_
 simp only [Act.put,List.setIfInBounds_toArray,List.set_cons_zero,List.set_cons_succ]
 refine tkS 22 (some 29) rfl rfl (by kernel_rfl) rfl ?_
 simp only [Act.put,List.setIfInBounds_toArray,List.set_cons_zero,List.set_cons_succ]
 refine tkV (v:=?_) 23 (some 30) rfl rfl (by kernel_rfl) rfl (fun W' => ?_) ?_
 rotate_left
 ·go_simp; (try with_reducible rfl)
 simp only [Act.put,List.setIfInBounds_toArray,List.set_cons_zero,List.set_cons_succ]
 refine tkV (v:=?_) 24 (some 31) rfl rfl (by kernel_rfl) rfl (fun W' => ?_) ?_
 rotate_left
 ·go_simp; (try with_reducible rfl)
 simp only [Act.put,List.setIfInBounds_toArray,List.set_cons_zero,List.set_cons_succ]
 refine tkS 25 (some 32) rfl rfl (by kernel_rfl) rfl ?_
 simp only [Act.put,List.setIfInBounds_toArray,List.set_cons_zero,List.set_cons_succ]
 refine tkS 26 (some 33) rfl rfl (by kernel_rfl) rfl ?_
 simp only [Act.put,List.setIfInBounds_toArray,List.set_cons_zero,List.set_cons_succ]
 refine tkS 27 (some 34) rfl rfl (by kernel_rfl) rfl ?_
 simp only [Act.put,List.setIfInBounds_toArray,List.set_cons_zero,List.set_cons_succ]
 refine tkV (v:=?_) 28 (some 35) rfl rfl (by kernel_rfl) rfl (fun W' => ?_) ?_
 rotate_left
 ·go_simp; (try with_reducible rfl)
 simp only [Act.put,List.setIfInBounds_toArray,List.set_cons_zero,List.set_cons_succ]
 refine wpAnyH_done (by kernel_rfl) ?_ _
 obtain ⟨xc0,xc1,xc2,xc3,xc4,xc5,xc6⟩:=cells7 hst.x
 obtain ⟨yc0,yc1,yc2,yc3,yc4,yc5,yc6⟩:=cells7 hst.y
 obtain ⟨pf0,pf1,pf2,pf3,pf4,pf5,pf6⟩:=frozen7 hst.p
 obtain ⟨qf0,qf1,qf2,qf3,qf4,qf5,qf6⟩:=frozen7 hst.q
 obtain ⟨xf0,xf1,xf2,xf3,xf4,xf5,xf6⟩:=frozen7 hst.x
 obtain ⟨yf0,yf1,yf2,yf3,yf4,yf5,yf6⟩:=frozen7 hst.y
 clear RP
 go_wp2
 all_goals
  refine bodyPost_ret (ret24 (gx:=w.heap.size + 1 + 1) (gy:=w.heap.size + 1 + 1 + 1) rfl rfl rfl ?_ ?_) rfl ⟨rfl,?_⟩
  ·exact ((keep7 (by omega) _ _ _ _ _ _ _).trans (set7 hst.x rfl _ _ _ _ _ _ _))
  ·exact (set7 ((keep7 (by omega) _ _ _ _ _ _ _).trans hst.y) rfl _ _ _ _ _ _ _)
  ·exact (below7 (below7 hst.below (by omega) _ _ _ _ _ _ _) (by omega) _ _ _ _ _ _ _)
set_option maxHeartbeats 8000000 in
set_option maxRecDepth 100000 in
theorem comm_nq (p q : S25) (A5 : Option Addr) (c5 : Nat) (A6 : Option Addr) (c6 : Nat) (B5 : Option Addr) (d5 : Nat) (B6 : Option Addr) (d6 : Nat) (w : World) (hp : Okp p) (rp : Rd w p A5 c5 A6 c6) (b1 : primB p = true) (hq : Okp q) (rq : Rd w q B5 d5 B6 d6) (b2 : primB q = false) :
  Calls Tryz.prog 42 #[.agg (cs p A5 c5 A6 c6),.agg (cs q B5 d5 B6 d6)] w fun e w' => e = .returned (.tuple #[.agg zeroC,.agg zeroC,.bool false]) ∧ Below w.heap.size w w':=by
 have RP : ∀ cp cq W,St w cp cq W → Calls Tryz.prog 25 #[.agg (cs p A5 c5 A6 c6)] W fun e W' => e = .returned (.bool true) ∧ St w cp cq W':=fun cp cq W h => by
  have h2:=right_st p A5 c5 A6 c6 w W cp cq hp rp h
  rwa [b1] at h2
 have RQ : ∀ cp cq W,St w cp cq W → Calls Tryz.prog 25 #[.agg (cs q B5 d5 B6 d6)] W fun e W' => e = .returned (.bool false) ∧ St w cp cq W':=fun cp cq W h => by
  have h2:=right_st q B5 d5 B6 d6 w W cp cq hq rq h
  rwa [b2] at h2
 go_enter Tryz.func42,Tryz.ntmps42
 go_wp2
 have hst:=(St.start w (cs p A5 c5 A6 c6) (cs q B5 d5 B6 d6)).drew
 refine wp_region_held_drew (S:=fun _ => True) (by kernel_rfl) trivial (fun _ => ?_)
 apply cutG (S:=St w (cs p A5 c5 A6 c6) (cs q B5 d5 B6 d6))
 ·exact fun tail => tail _ hst
 clear hst
 intro w1 hst
 obtain ⟨pc0,pc1,pc2,pc3,pc4,pc5,pc6⟩:=cells7 hst.p
 refine wpAnyH_ready (rs:=[0]) (by kernel_rfl) (by simp) (AllReadyH.cons rfl (fun K hK => ?_) AllReadyH.nil)
 go_simp
 refine hK.out _ _ trivial (fun _ => ?_)
 clear hK K
 clear pc0 pc1 pc2 pc3 pc4 pc5 pc6
 refine wpAnyH_ready (rs:=[1]) (by kernel_rfl) (by simp) (AllReadyH.cons rfl (fun K hK => ?_) AllReadyH.nil)
 go_simp
 refine (RP _ _ _ hst).mono ?_
 rintro e w1 ⟨rfl,hst⟩
 refine hK.out _ _ trivial (fun _ => ?_)
 clear hK K
 refine tkV (v:=?_) 2 (some 9) rfl rfl (by kernel_rfl) rfl (fun W' => ?_) ?_
 rotate_left
 ·go_simp; (try with_reducible rfl)
 simp only [Act.put,List.setIfInBounds_toArray,List.set_cons_zero,List.set_cons_succ]
 refine tkV (v:=?_) 3 (some 10) rfl rfl (by kernel_rfl) rfl (fun W' => ?_) ?_
 rotate_left
 ·go_simp; (try with_reducible rfl)
 simp only [Act.put,List.setIfInBounds_toArray,List.set_cons_zero,List.set_cons_succ]
 obtain ⟨qc0,qc1,qc2,qc3,qc4,qc5,qc6⟩:=cells7 hst.q
 refine wpAnyH_ready (rs:=[4]) (by kernel_rfl) (by simp) (AllReadyH.cons rfl (fun K hK => ?_) AllReadyH.nil)
 go_simp
 refine hK.out _ _ trivial (fun _ => ?_)
 clear hK K
 clear qc0 qc1 qc2 qc3 qc4 qc5 qc6
 refine wpAnyH_ready (rs:=[5]) (by kernel_rfl) (by simp) (AllReadyH.cons rfl (fun K hK => ?_) AllReadyH.nil)
 go_simp
 refine (RQ _ _ _ hst).mono ?_
 rintro e w1 ⟨rfl,hst⟩
 refine hK.out _ _ trivial (fun _ => ?_)
 clear hK K
 refine tkV (v:=?_) 6 (some 13) rfl rfl (by kernel_rfl) rfl (fun W' => ?_) ?_
 rotate_left
 ·go_simp; (try with_reducible rfl)
 simp only [Act.put,List.setIfInBounds_toArray,List.set_cons_zero,List.set_cons_succ]
 refine tkV (v:=?_) 7 (some 14) rfl rfl (by kernel_rfl) rfl (fun W' => ?_) ?_
 rotate_left
 ·go_simp; (try with_reducible rfl)
 simp only [Act.put,List.setIfInBounds_toArray,List.set_cons_zero,List.set_cons_succ]
 refine tkV (v:=?_) 8 (some 15) rfl rfl (by kernel_rfl) rfl (fun W' => ?_) ?_
 rotate_left
 ·go_simp; (try with_reducible rfl)
 simp only [Act.put,List.setIfInBounds_toArray,List.set_cons_zero,List.set_cons_succ]
 refine tkS 9 (some 16) rfl rfl (by kernel_rfl) rfl ?_
 simp only [Act.put,List.setIfInBounds_toArray,List.set_cons_zero,List.set_cons_succ]
 refine tkS 10 (some 17) rfl rfl (by kernel_rfl) rfl ?_
 simp only [Act.put,List.setIfInBounds_toArray,List.set_cons_zero,List.set_cons_succ]
 refine tkS 11 (some 18) rfl rfl (by kernel_rfl) rfl ?_
 simp only [Act.put,List.setIfInBounds_toArray,List.set_cons_zero,List.set_cons_succ]
 refine tkS 12 (some 19) rfl rfl (by kernel_rfl) rfl ?_
 simp only [Act.put,List.setIfInBounds_toArray,List.set_cons_zero,List.set_cons_succ]
 refine tkS 13 (some 20) rfl rfl (by kernel_rfl) rfl ?_
 simp only [Act.put,List.setIfInBounds_toArray,List.set_cons_zero,List.set_cons_succ]
 refine tkS 14 (some 21) rfl rfl (by kernel_rfl) rfl ?_
 simp only [Act.put,List.setIfInBounds_toArray,List.set_cons_zero,List.set_cons_succ]
 refine tkS 15 (some 22) rfl rfl (by kernel_rfl) rfl ?_
 simp only [Act.put,List.setIfInBounds_toArray,List.set_cons_zero,List.set_cons_succ]
 refine tkS 16 (some 23) rfl rfl (by kernel_rfl) rfl ?_
 simp only [Act.put,List.setIfInBounds_toArray,List.set_cons_zero,List.set_cons_succ]
 refine tkS 17 (some 24) rfl rfl (by kernel_rfl) rfl ?_
 simp only [Act.put,List.setIfInBounds_toArray,List.set_cons_zero,List.set_cons_succ]
 refine tkV (v:=?_) 18 (some 25) rfl rfl (by kernel_rfl) rfl (fun W' => ?_) ?_
 rotate_left
 ·go_simp; (try with_reducible rfl)
 simp only [Act.put,List.setIfInBounds_toArray,List.set_cons_zero,List.set_cons_succ]
 refine tkV (v:=?_) 19 (some 26) rfl rfl (by kernel_rfl) rfl (fun W' => ?_) ?_
 rotate_left
 ·go_simp; (try with_reducible rfl)
 simp only [Act.put,List.setIfInBounds_toArray,List.set_cons_zero,List.set_cons_succ]
 refine tkS 20 (some 27) rfl rfl (by kernel_rfl) rfl ?_
 simp only [Act.put,List.setIfInBounds_toArray,List.set_cons_zero,List.set_cons_succ]
 refine tkS 21 (some 28) rfl rfl (by kernel_rfl) rfl ?_
 simp only [Act.put,List.setIfInBounds_toArray,List.set_cons_zero,List.set_cons_succ]
 refine tkS 22 (some 29) rfl rfl (by kernel_rfl) rfl ?_
 simp only [Act.put,List.setIfInBounds_toArray,List.set_cons_zero,List.set_cons_succ]
 refine tkV (v:=?_) 23 (some 30) rfl rfl (by kernel_rfl) rfl (fun W' => ?_) ?_
 rotate_left
 ·go_simp; (try with_reducible rfl)
 simp only [Act.put,List.setIfInBounds_toArray,List.set_cons_zero,List.set_cons_succ]
 refine tkV (v:=?_) 24 (some 31) rfl rfl (by kernel_rfl) rfl (fun W' => ?_) ?_
 rotate_left
 ·go_simp; (try with_reducible rfl)
 simp only [Act.put,List.setIfInBounds_toArray,List.set_cons_zero,List.set_cons_succ]
 refine tkS 25 (some 32) rfl rfl (by kernel_rfl) rfl ?_
 simp only [Act.put,List.setIfInBounds_toArray,List.set_cons_zero,List.set_cons_succ]
 refine tkS 26 (some 33) rfl rfl (by kernel_rfl) rfl ?_
 simp only [Act.put,List.setIfInBounds_toArray,List.set_cons_zero,List.set_cons_succ]
 refine tkS 27 (some 34) rfl rfl (by kernel_rfl) rfl ?_
 simp only [Act.put,List.setIfInBounds_toArray,List.set_cons_zero,List.set_cons_succ]
 refine tkV (v:=?_) 28 (some 35) rfl rfl (by kernel_rfl) rfl (fun W' => ?_) ?_
 rotate_left
 ·go_simp; (try with_reducible rfl)
 simp only [Act.put,List.setIfInBounds_toArray,List.set_cons_zero,List.set_cons_succ]
 refine wpAnyH_done (by kernel_rfl) ?_ _
 obtain ⟨xc0,xc1,xc2,xc3,xc4,xc5,xc6⟩:=cells7 hst.x
 obtain ⟨yc0,yc1,yc2,yc3,yc4,yc5,yc6⟩:=cells7 hst.y
 obtain ⟨pf0,pf1,pf2,pf3,pf4,pf5,pf6⟩:=frozen7 hst.p
 obtain ⟨qf0,qf1,qf2,qf3,qf4,qf5,qf6⟩:=frozen7 hst.q
 obtain ⟨xf0,xf1,xf2,xf3,xf4,xf5,xf6⟩:=frozen7 hst.x
 obtain ⟨yf0,yf1,yf2,yf3,yf4,yf5,yf6⟩:=frozen7 hst.y
 clear RP RQ
 go_wp2
 all_goals
  refine bodyPost_ret (ret24 (gx:=w.heap.size + 1 + 1) (gy:=w.heap.size + 1 + 1 + 1) rfl rfl rfl ?_ ?_) rfl ⟨rfl,?_⟩
  ·exact ((keep7 (by omega) _ _ _ _ _ _ _).trans (set7 hst.x rfl _ _ _ _ _ _ _))
  ·exact (set7 ((keep7 (by omega) _ _ _ _ _ _ _).trans hst.y) rfl _ _ _ _ _ _ _)
  ·exact (below7 (below7 hst.below (by omega) _ _ _ _ _ _ _) (by omega) _ _ _ _ _ _ _)
set_option maxHeartbeats 8000000 in
set_option maxRecDepth 100000 in
theorem comm_in (p q p2 q2 : S25) (A5 : Option Addr) (c5 : Nat) (A6 : Option Addr) (c6 : Nat) (B5 : Option Addr) (d5 : Nat) (B6 : Option Addr) (d6 : Nat) (w : World) (r x3 x4 : Bool) (hp : Okp p) (rp : Rd w p A5 c5 A6 c6) (b1 : primB p = true) (hq : Okp q) (rq : Rd w q B5 d5 B6 d6) (b2 : primB q = true) (hp2 : Okp p2) (rp2 : Rd w p2 A5 c5 A6 c6) (b3 : primB p2 = x3) (hq2 : Okp q2) (rq2 : Rd w q2 B5 d5 B6 d6) (b4 : primB q2 = x4) (n : Nat) (en : ∀ args w,(callFunc n args).run Tryz.prog w = .ok (.enter n args) w) (row : Array Value) (h70 : ∀ W,(Instr.index 94 (.agg rulesV) (.int .i64 (classS p))).run Tryz.prog W = .ok (.agg row) W) (h69 : ∀ W,(Instr.index 93 (.agg row) (.int .i64 (classS q))).run Tryz.prog W = .ok (.func (.func n) #[] #[]) W)
  (hrule : ∀ W,St w (cs p A5 c5 A6 c6) (cs q B5 d5 B6 d6) W → Calls Tryz.prog n #[.pointer (some ⟨w.heap.size,0,none⟩),.pointer (some ⟨w.heap.size + 1,0,none⟩)] W fun e W' => e = .returned (.bool r) ∧ St w (cs p2 A5 c5 A6 c6) (cs q2 B5 d5 B6 d6) W') :
  Calls Tryz.prog 42 #[.agg (cs p A5 c5 A6 c6),.agg (cs q B5 d5 B6 d6)] w fun e w' => CmPost w q2 p2 A5 c5 A6 c6 B5 d5 B6 d6 r x3 x4 e w':=by
 have RP : ∀ cp cq W,St w cp cq W → Calls Tryz.prog 25 #[.agg (cs p A5 c5 A6 c6)] W fun e W' => e = .returned (.bool true) ∧ St w cp cq W':=fun cp cq W h => by
  have h2:=right_st p A5 c5 A6 c6 w W cp cq hp rp h
  rwa [b1] at h2
 have RQ : ∀ cp cq W,St w cp cq W → Calls Tryz.prog 25 #[.agg (cs q B5 d5 B6 d6)] W fun e W' => e = .returned (.bool true) ∧ St w cp cq W':=fun cp cq W h => by
  have h2:=right_st q B5 d5 B6 d6 w W cp cq hq rq h
  rwa [b2] at h2
 have RP2 : ∀ cp cq W,St w cp cq W → Calls Tryz.prog 25 #[.agg (cs p2 A5 c5 A6 c6)] W fun e W' => e = .returned (.bool x3) ∧ St w cp cq W':=fun cp cq W h => by
  have h2:=right_st p2 A5 c5 A6 c6 w W cp cq hp2 rp2 h
  rwa [b3] at h2
 have RQ2 : ∀ cp cq W,St w cp cq W → Calls Tryz.prog 25 #[.agg (cs q2 B5 d5 B6 d6)] W fun e W' => e = .returned (.bool x4) ∧ St w cp cq W':=fun cp cq W h => by
  have h2:=right_st q2 B5 d5 B6 d6 w W cp cq hq2 rq2 h
  rwa [b4] at h2
 go_enter Tryz.func42,Tryz.ntmps42
 go_wp2
 have hst:=(St.start w (cs p A5 c5 A6 c6) (cs q B5 d5 B6 d6)).drew
 refine wp_region_held_drew (S:=fun _ => True) (by kernel_rfl) trivial (fun _ => ?_)
 apply cutG (S:=St w (cs p A5 c5 A6 c6) (cs q B5 d5 B6 d6))
 ·exact fun tail => tail _ hst
 clear hst
 intro w1 hst
 apply cutG (S:=St w (cs p A5 c5 A6 c6) (cs q B5 d5 B6 d6))
 ·intro tail
  obtain ⟨pc0,pc1,pc2,pc3,pc4,pc5,pc6⟩:=cells7 hst.p
  refine wpAnyH_ready (rs:=[0]) (by kernel_rfl) (by simp) (AllReadyH.cons rfl (fun K hK => ?_) AllReadyH.nil)
  go_simp
  refine hK.out _ _ trivial (fun _ => ?_)
  clear hK K
  clear pc0 pc1 pc2 pc3 pc4 pc5 pc6
  refine wpAnyH_ready (rs:=[1]) (by kernel_rfl) (by simp) (AllReadyH.cons rfl (fun K hK => ?_) AllReadyH.nil)
  go_simp
  refine (RP _ _ _ hst).mono ?_
  rintro e w1 ⟨rfl,hst⟩
  refine hK.out _ _ trivial (fun _ => ?_)
  clear hK K
  refine tkV (v:=?_) 2 (some 9) rfl rfl (by kernel_rfl) rfl (fun W' => ?_) ?_
  rotate_left
  ·go_simp; (try with_reducible rfl)
  simp only [Act.put,List.setIfInBounds_toArray,List.set_cons_zero,List.set_cons_succ]
  refine tkV (v:=?_) 3 (some 10) rfl rfl (by kernel_rfl) rfl (fun W' => ?_) ?_
  rotate_left
  ·go_simp; (try with_reducible rfl)
  simp only [Act.put,List.setIfInBounds_toArray,List.set_cons_zero,List.set_cons_succ]
  obtain ⟨qc0,qc1,qc2,qc3,qc4,qc5,qc6⟩:=cells7 hst.q
  refine wpAnyH_ready (rs:=[4]) (by kernel_rfl) (by simp) (AllReadyH.cons rfl (fun K hK => ?_) AllReadyH.nil)
  go_simp
  refine hK.out _ _ trivial (fun _ => ?_)
  clear hK K
  clear qc0 qc1 qc2 qc3 qc4 qc5 qc6
  refine wpAnyH_ready (rs:=[5]) (by kernel_rfl) (by simp) (AllReadyH.cons rfl (fun K hK => ?_) AllReadyH.nil)
  go_simp
  refine (RQ _ _ _ hst).mono ?_
  rintro e w1 ⟨rfl,hst⟩
  refine hK.out _ _ trivial (fun _ => ?_)
  clear hK K
  refine tkV (v:=?_) 6 (some 13) rfl rfl (by kernel_rfl) rfl (fun W' => ?_) ?_
  rotate_left
  ·go_simp; (try with_reducible rfl)
  simp only [Act.put,List.setIfInBounds_toArray,List.set_cons_zero,List.set_cons_succ]
  refine tkV (v:=?_) 7 (some 14) rfl rfl (by kernel_rfl) rfl (fun W' => ?_) ?_
  rotate_left
  ·go_simp; (try with_reducible rfl)
  simp only [Act.put,List.setIfInBounds_toArray,List.set_cons_zero,List.set_cons_succ]
  refine tkV (v:=?_) 8 (some 15) rfl rfl (by kernel_rfl) rfl (fun W' => ?_) ?_
  rotate_left
  ·go_simp; (try with_reducible rfl)
  simp only [Act.put,List.setIfInBounds_toArray,List.set_cons_zero,List.set_cons_succ]
  obtain ⟨pc0,pc1,pc2,pc3,pc4,pc5,pc6⟩:=cells7 hst.p
  obtain ⟨qc0,qc1,qc2,qc3,qc4,qc5,qc6⟩:=cells7 hst.q
  refine wpAnyH_ready (rs:=[9,10,13]) (by kernel_rfl) (by simp) (AllReadyH.cons rfl (fun K hK => ?_) (AllReadyH.cons rfl (fun K hK => ?_) (AllReadyH.cons rfl (fun K hK => ?_) AllReadyH.nil)))
  ·skip
   go_simp
   refine (rules_st w _ _ _ hst).mono ?_
   rintro e w1 ⟨rfl,hst⟩
   refine hK.out _ _ trivial (fun _ => ?_)
   clear hK K
   clear pc0 pc1 pc2 pc3 pc4 pc5 pc6 qc0 qc1 qc2 qc3 qc4 qc5 qc6
   obtain ⟨pc0,pc1,pc2,pc3,pc4,pc5,pc6⟩:=cells7 hst.p
   obtain ⟨qc0,qc1,qc2,qc3,qc4,qc5,qc6⟩:=cells7 hst.q
   refine wpAnyH_ready (rs:=[10,13]) (by kernel_rfl) (by simp) (AllReadyH.cons rfl (fun K hK => ?_) (AllReadyH.cons rfl (fun K hK => ?_) AllReadyH.nil))
   ·skip
    go_simp
    refine hK.out _ _ trivial (fun _ => ?_)
    clear hK K
    clear pc0 pc1 pc2 pc3 pc4 pc5 pc6 qc0 qc1 qc2 qc3 qc4 qc5 qc6
    obtain ⟨qc0,qc1,qc2,qc3,qc4,qc5,qc6⟩:=cells7 hst.q
    refine wpAnyH_ready (rs:=[11,13]) (by kernel_rfl) (by simp) (AllReadyH.cons rfl (fun K hK => ?_) (AllReadyH.cons rfl (fun K hK => ?_) AllReadyH.nil))
    ·skip
     go_simp
     refine (class_st p A5 c5 A6 c6 w _ _ _ rp hst).mono ?_
     rintro e w1 ⟨rfl,hst⟩
     refine hK.out _ _ trivial (fun _ => ?_)
     clear hK K
     clear qc0 qc1 qc2 qc3 qc4 qc5 qc6
     refine tkV (v:=?_) 12 (some 19) rfl rfl (by kernel_rfl) rfl (fun W' => ?_) ?_
     rotate_left
     ·go_simp; (try with_reducible rfl)
     simp only [Act.put,List.setIfInBounds_toArray,List.set_cons_zero,List.set_cons_succ]
     obtain ⟨qc0,qc1,qc2,qc3,qc4,qc5,qc6⟩:=cells7 hst.q
     refine wpAnyH_ready (rs:=[13]) (by kernel_rfl) (by simp) (AllReadyH.cons rfl (fun K hK => ?_) AllReadyH.nil)
     go_simp
     refine hK.out _ _ trivial (fun _ => ?_)
     clear hK K
     clear qc0 qc1 qc2 qc3 qc4 qc5 qc6
     refine wpAnyH_ready (rs:=[14]) (by kernel_rfl) (by simp) (AllReadyH.cons rfl (fun K hK => ?_) AllReadyH.nil)
     go_simp
     refine (class_st q B5 d5 B6 d6 w _ _ _ rq hst).mono ?_
     rintro e w1 ⟨rfl,hst⟩
     refine hK.out _ _ trivial (fun _ => ?_)
     clear hK K
     refine tkV (v:=?_) 15 (some 22) rfl rfl (by kernel_rfl) rfl (fun W' => ?_) ?_
     rotate_left
     ·go_simp; (try with_reducible rfl)
     simp only [Act.put,List.setIfInBounds_toArray,List.set_cons_zero,List.set_cons_succ]
     exact wpAnyH_at (l':=#[true,true,true,true,true,true,true,true,true,true,true,true,true,true,true,true,false,false,false,false,false,false,false,false,false,false,false,false,false]) (by kernel_rfl) (tail _ hst)
    ·skip
     go_simp
     refine hK.out _ _ trivial (fun _ => ?_)
     clear hK K
     clear qc0 qc1 qc2 qc3 qc4 qc5 qc6
     refine wpAnyH_ready (rs:=[11]) (by kernel_rfl) (by simp) (AllReadyH.cons rfl (fun K hK => ?_) AllReadyH.nil)
     go_simp
     refine (class_st p A5 c5 A6 c6 w _ _ _ rp hst).mono ?_
     rintro e w1 ⟨rfl,hst⟩
     refine hK.out _ _ trivial (fun _ => ?_)
     clear hK K
     refine tkV (v:=?_) 12 (some 19) rfl rfl (by kernel_rfl) rfl (fun W' => ?_) ?_
     rotate_left
     ·go_simp; (try with_reducible rfl)
     simp only [Act.put,List.setIfInBounds_toArray,List.set_cons_zero,List.set_cons_succ]
     refine wpAnyH_ready (rs:=[14]) (by kernel_rfl) (by simp) (AllReadyH.cons rfl (fun K hK => ?_) AllReadyH.nil)
     go_simp
     refine (class_st q B5 d5 B6 d6 w _ _ _ rq hst).mono ?_
     rintro e w1 ⟨rfl,hst⟩
     refine hK.out _ _ trivial (fun _ => ?_)
     clear hK K
     refine tkV (v:=?_) 15 (some 22) rfl rfl (by kernel_rfl) rfl (fun W' => ?_) ?_
     rotate_left
     ·go_simp; (try with_reducible rfl)
     simp only [Act.put,List.setIfInBounds_toArray,List.set_cons_zero,List.set_cons_succ]
     exact wpAnyH_at (l':=#[true,true,true,true,true,true,true,true,true,true,true,true,true,true,true,true,false,false,false,false,false,false,false,false,false,false,false,false,false]) (by kernel_rfl) (tail _ hst)
   ·skip
    go_simp
    refine hK.out _ _ trivial (fun _ => ?_)
    clear hK K
    clear pc0 pc1 pc2 pc3 pc4 pc5 pc6 qc0 qc1 qc2 qc3 qc4 qc5 qc6
    obtain ⟨pc0,pc1,pc2,pc3,pc4,pc5,pc6⟩:=cells7 hst.p
    refine wpAnyH_ready (rs:=[10]) (by kernel_rfl) (by simp) (AllReadyH.cons rfl (fun K hK => ?_) AllReadyH.nil)
    go_simp
    refine hK.out _ _ trivial (fun _ => ?_)
    clear hK K
    clear pc0 pc1 pc2 pc3 pc4 pc5 pc6
    refine wpAnyH_ready (rs:=[11]) (by kernel_rfl) (by simp) (AllReadyH.cons rfl (fun K hK => ?_) AllReadyH.nil)
    go_simp
    refine (class_st p A5 c5 A6 c6 w _ _ _ rp hst).mono ?_
    rintro e w1 ⟨rfl,hst⟩
    refine hK.out _ _ trivial (fun _ => ?_)
    clear hK K
    refine tkV (v:=?_) 12 (some 19) rfl rfl (by kernel_rfl) rfl (fun W' => ?_) ?_
    rotate_left
    ·go_simp; (try with_reducible rfl)
    simp only [Act.put,List.setIfInBounds_toArray,List.set_cons_zero,List.set_cons_succ]
    refine wpAnyH_ready (rs:=[14]) (by kernel_rfl) (by simp) (AllReadyH.cons rfl (fun K hK => ?_) AllReadyH.nil)
    go_simp
    refine (class_st q B5 d5 B6 d6 w _ _ _ rq hst).mono ?_
    rintro e w1 ⟨rfl,hst⟩
    refine hK.out _ _ trivial (fun _ => ?_)
    clear hK K
    refine tkV (v:=?_) 15 (some 22) rfl rfl (by kernel_rfl) rfl (fun W' => ?_) ?_
    rotate_left
    ·go_simp; (try with_reducible rfl)
    simp only [Act.put,List.setIfInBounds_toArray,List.set_cons_zero,List.set_cons_succ]
    exact wpAnyH_at (l':=#[true,true,true,true,true,true,true,true,true,true,true,true,true,true,true,true,false,false,false,false,false,false,false,false,false,false,false,false,false]) (by kernel_rfl) (tail _ hst)
  ·skip
   go_simp
   refine hK.out _ _ trivial (fun _ => ?_)
   clear hK K
   clear pc0 pc1 pc2 pc3 pc4 pc5 pc6 qc0 qc1 qc2 qc3 qc4 qc5 qc6
   obtain ⟨qc0,qc1,qc2,qc3,qc4,qc5,qc6⟩:=cells7 hst.q
   refine wpAnyH_ready (rs:=[9,13]) (by kernel_rfl) (by simp) (AllReadyH.cons rfl (fun K hK => ?_) (AllReadyH.cons rfl (fun K hK => ?_) AllReadyH.nil))
   ·skip
    go_simp
    refine (rules_st w _ _ _ hst).mono ?_
    rintro e w1 ⟨rfl,hst⟩
    refine hK.out _ _ trivial (fun _ => ?_)
    clear hK K
    clear qc0 qc1 qc2 qc3 qc4 qc5 qc6
    obtain ⟨qc0,qc1,qc2,qc3,qc4,qc5,qc6⟩:=cells7 hst.q
    refine wpAnyH_ready (rs:=[11,13]) (by kernel_rfl) (by simp) (AllReadyH.cons rfl (fun K hK => ?_) (AllReadyH.cons rfl (fun K hK => ?_) AllReadyH.nil))
    ·skip
     go_simp
     refine (class_st p A5 c5 A6 c6 w _ _ _ rp hst).mono ?_
     rintro e w1 ⟨rfl,hst⟩
     refine hK.out _ _ trivial (fun _ => ?_)
     clear hK K
     clear qc0 qc1 qc2 qc3 qc4 qc5 qc6
     refine tkV (v:=?_) 12 (some 19) rfl rfl (by kernel_rfl) rfl (fun W' => ?_) ?_
     rotate_left
     ·go_simp; (try with_reducible rfl)
     simp only [Act.put,List.setIfInBounds_toArray,List.set_cons_zero,List.set_cons_succ]
     obtain ⟨qc0,qc1,qc2,qc3,qc4,qc5,qc6⟩:=cells7 hst.q
     refine wpAnyH_ready (rs:=[13]) (by kernel_rfl) (by simp) (AllReadyH.cons rfl (fun K hK => ?_) AllReadyH.nil)
     go_simp
     refine hK.out _ _ trivial (fun _ => ?_)
     clear hK K
     clear qc0 qc1 qc2 qc3 qc4 qc5 qc6
     refine wpAnyH_ready (rs:=[14]) (by kernel_rfl) (by simp) (AllReadyH.cons rfl (fun K hK => ?_) AllReadyH.nil)
     go_simp
     refine (class_st q B5 d5 B6 d6 w _ _ _ rq hst).mono ?_
     rintro e w1 ⟨rfl,hst⟩
     refine hK.out _ _ trivial (fun _ => ?_)
     clear hK K
     refine tkV (v:=?_) 15 (some 22) rfl rfl (by kernel_rfl) rfl (fun W' => ?_) ?_
     rotate_left
     ·go_simp; (try with_reducible rfl)
     simp only [Act.put,List.setIfInBounds_toArray,List.set_cons_zero,List.set_cons_succ]
     exact wpAnyH_at (l':=#[true,true,true,true,true,true,true,true,true,true,true,true,true,true,true,true,false,false,false,false,false,false,false,false,false,false,false,false,false]) (by kernel_rfl) (tail _ hst)
    ·skip
     go_simp
     refine hK.out _ _ trivial (fun _ => ?_)
     clear hK K
     clear qc0 qc1 qc2 qc3 qc4 qc5 qc6
     refine wpAnyH_ready (rs:=[11]) (by kernel_rfl) (by simp) (AllReadyH.cons rfl (fun K hK => ?_) AllReadyH.nil)
     go_simp
     refine (class_st p A5 c5 A6 c6 w _ _ _ rp hst).mono ?_
     rintro e w1 ⟨rfl,hst⟩
     refine hK.out _ _ trivial (fun _ => ?_)
     clear hK K
     refine tkV (v:=?_) 12 (some 19) rfl rfl (by kernel_rfl) rfl (fun W' => ?_) ?_
     rotate_left
     ·go_simp; (try with_reducible rfl)
     simp only [Act.put,List.setIfInBounds_toArray,List.set_cons_zero,List.set_cons_succ]
     refine wpAnyH_ready (rs:=[14]) (by kernel_rfl) (by simp) (AllReadyH.cons rfl (fun K hK => ?_) AllReadyH.nil)
     go_simp
     refine (class_st q B5 d5 B6 d6 w _ _ _ rq hst).mono ?_
     rintro e w1 ⟨rfl,hst⟩
     refine hK.out _ _ trivial (fun _ => ?_)
     clear hK K
     refine tkV (v:=?_) 15 (some 22) rfl rfl (by kernel_rfl) rfl (fun W' => ?_) ?_
     rotate_left
     ·go_simp; (try with_reducible rfl)
     simp only [Act.put,List.setIfInBounds_toArray,List.set_cons_zero,List.set_cons_succ]
     exact wpAnyH_at (l':=#[true,true,true,true,true,true,true,true,true,true,true,true,true,true,true,true,false,false,false,false,false,false,false,false,false,false,false,false,false]) (by kernel_rfl) (tail _ hst)
   ·skip
    go_simp
    refine hK.out _ _ trivial (fun _ => ?_)
    clear hK K
    clear qc0 qc1 qc2 qc3 qc4 qc5 qc6
    refine wpAnyH_ready (rs:=[9]) (by kernel_rfl) (by simp) (AllReadyH.cons rfl (fun K hK => ?_) AllReadyH.nil)
    go_simp
    refine (rules_st w _ _ _ hst).mono ?_
    rintro e w1 ⟨rfl,hst⟩
    refine hK.out _ _ trivial (fun _ => ?_)
    clear hK K
    refine wpAnyH_ready (rs:=[11]) (by kernel_rfl) (by simp) (AllReadyH.cons rfl (fun K hK => ?_) AllReadyH.nil)
    go_simp
    refine (class_st p A5 c5 A6 c6 w _ _ _ rp hst).mono ?_
    rintro e w1 ⟨rfl,hst⟩
    refine hK.out _ _ trivial (fun _ => ?_)
    clear hK K
    refine tkV (v:=?_) 12 (some 19) rfl rfl (by kernel_rfl) rfl (fun W' => ?_) ?_
    rotate_left
    ·go_simp; (try with_reducible rfl)
    simp only [Act.put,List.setIfInBounds_toArray,List.set_cons_zero,List.set_cons_succ]
    refine wpAnyH_ready (rs:=[14]) (by kernel_rfl) (by simp) (AllReadyH.cons rfl (fun K hK => ?_) AllReadyH.nil)
    go_simp
    refine (class_st q B5 d5 B6 d6 w _ _ _ rq hst).mono ?_
    rintro e w1 ⟨rfl,hst⟩
    refine hK.out _ _ trivial (fun _ => ?_)
    clear hK K
    refine tkV (v:=?_) 15 (some 22) rfl rfl (by kernel_rfl) rfl (fun W' => ?_) ?_
    rotate_left
    ·go_simp; (try with_reducible rfl)
    simp only [Act.put,List.setIfInBounds_toArray,List.set_cons_zero,List.set_cons_succ]
    exact wpAnyH_at (l':=#[true,true,true,true,true,true,true,true,true,true,true,true,true,true,true,true,false,false,false,false,false,false,false,false,false,false,false,false,false]) (by kernel_rfl) (tail _ hst)
  ·skip
   go_simp
   refine hK.out _ _ trivial (fun _ => ?_)
   clear hK K
   clear pc0 pc1 pc2 pc3 pc4 pc5 pc6 qc0 qc1 qc2 qc3 qc4 qc5 qc6
   obtain ⟨pc0,pc1,pc2,pc3,pc4,pc5,pc6⟩:=cells7 hst.p
   refine wpAnyH_ready (rs:=[9,10]) (by kernel_rfl) (by simp) (AllReadyH.cons rfl (fun K hK => ?_) (AllReadyH.cons rfl (fun K hK => ?_) AllReadyH.nil))
   ·skip
    go_simp
    refine (rules_st w _ _ _ hst).mono ?_
    rintro e w1 ⟨rfl,hst⟩
    refine hK.out _ _ trivial (fun _ => ?_)
    clear hK K
    clear pc0 pc1 pc2 pc3 pc4 pc5 pc6
    obtain ⟨pc0,pc1,pc2,pc3,pc4,pc5,pc6⟩:=cells7 hst.p
    refine wpAnyH_ready (rs:=[10]) (by kernel_rfl) (by simp) (AllReadyH.cons rfl (fun K hK => ?_) AllReadyH.nil)
    go_simp
    refine hK.out _ _ trivial (fun _ => ?_)
    clear hK K
    clear pc0 pc1 pc2 pc3 pc4 pc5 pc6
    refine wpAnyH_ready (rs:=[11]) (by kernel_rfl) (by simp) (AllReadyH.cons rfl (fun K hK => ?_) AllReadyH.nil)
    go_simp
    refine (class_st p A5 c5 A6 c6 w _ _ _ rp hst).mono ?_
    rintro e w1 ⟨rfl,hst⟩
    refine hK.out _ _ trivial (fun _ => ?_)
    clear hK K
    refine tkV (v:=?_) 12 (some 19) rfl rfl (by kernel_rfl) rfl (fun W' => ?_) ?_
    rotate_left
    ·go_simp; (try with_reducible rfl)
    simp only [Act.put,List.setIfInBounds_toArray,List.set_cons_zero,List.set_cons_succ]
    refine wpAnyH_ready (rs:=[14]) (by kernel_rfl) (by simp) (AllReadyH.cons rfl (fun K hK => ?_) AllReadyH.nil)
    go_simp
    refine (class_st q B5 d5 B6 d6 w _ _ _ rq hst).mono ?_
    rintro e w1 ⟨rfl,hst⟩
    refine hK.out _ _ trivial (fun _ => ?_)
    clear hK K
    refine tkV (v:=?_) 15 (some 22) rfl rfl (by kernel_rfl) rfl (fun W' => ?_) ?_
    rotate_left
    ·go_simp; (try with_reducible rfl)
    simp only [Act.put,List.setIfInBounds_toArray,List.set_cons_zero,List.set_cons_succ]
    exact wpAnyH_at (l':=#[true,true,true,true,true,true,true,true,true,true,true,true,true,true,true,true,false,false,false,false,false,false,false,false,false,false,false,false,false]) (by kernel_rfl) (tail _ hst)
   ·skip
    go_simp
    refine hK.out _ _ trivial (fun _ => ?_)
    clear hK K
    clear pc0 pc1 pc2 pc3 pc4 pc5 pc6
    refine wpAnyH_ready (rs:=[9]) (by kernel_rfl) (by simp) (AllReadyH.cons rfl (fun K hK => ?_) AllReadyH.nil)
    go_simp
    refine (rules_st w _ _ _ hst).mono ?_
    rintro e w1 ⟨rfl,hst⟩
    refine hK.out _ _ trivial (fun _ => ?_)
    clear hK K
    refine wpAnyH_ready (rs:=[11]) (by kernel_rfl) (by simp) (AllReadyH.cons rfl (fun K hK => ?_) AllReadyH.nil)
    go_simp
    refine (class_st p A5 c5 A6 c6 w _ _ _ rp hst).mono ?_
    rintro e w1 ⟨rfl,hst⟩
    refine hK.out _ _ trivial (fun _ => ?_)
    clear hK K
    refine tkV (v:=?_) 12 (some 19) rfl rfl (by kernel_rfl) rfl (fun W' => ?_) ?_
    rotate_left
    ·go_simp; (try with_reducible rfl)
    simp only [Act.put,List.setIfInBounds_toArray,List.set_cons_zero,List.set_cons_succ]
    refine wpAnyH_ready (rs:=[14]) (by kernel_rfl) (by simp) (AllReadyH.cons rfl (fun K hK => ?_) AllReadyH.nil)
    go_simp
    refine (class_st q B5 d5 B6 d6 w _ _ _ rq hst).mono ?_
    rintro e w1 ⟨rfl,hst⟩
    refine hK.out _ _ trivial (fun _ => ?_)
    clear hK K
    refine tkV (v:=?_) 15 (some 22) rfl rfl (by kernel_rfl) rfl (fun W' => ?_) ?_
    rotate_left
    ·go_simp; (try with_reducible rfl)
    simp only [Act.put,List.setIfInBounds_toArray,List.set_cons_zero,List.set_cons_succ]
    exact wpAnyH_at (l':=#[true,true,true,true,true,true,true,true,true,true,true,true,true,true,true,true,false,false,false,false,false,false,false,false,false,false,false,false,false]) (by kernel_rfl) (tail _ hst)
 ·clear hst
  intro w1 hst
  refine wpAnyH_ready (rs:=[16]) (by kernel_rfl) (by simp) (AllReadyH.cons rfl (fun K hK => ?_) AllReadyH.nil)
  go_simp
  refine (hrule _ hst).mono ?_
  rintro e w1 ⟨rfl,hst⟩
  refine hK.out _ _ trivial (fun _ => ?_)
  clear hK K
  cases r with
  | false =>
   refine tkV (v:=?_) 17 (some 24) rfl rfl (by kernel_rfl) rfl (fun W' => ?_) ?_
   rotate_left
   ·go_simp; (try with_reducible rfl)
   simp only [Act.put,List.setIfInBounds_toArray,List.set_cons_zero,List.set_cons_succ]
   refine tkV (v:=?_) 18 (some 25) rfl rfl (by kernel_rfl) rfl (fun W' => ?_) ?_
   rotate_left
   ·go_simp; (try with_reducible rfl)
   simp only [Act.put,List.setIfInBounds_toArray,List.set_cons_zero,List.set_cons_succ]
   refine tkV (v:=?_) 19 (some 26) rfl rfl (by kernel_rfl) rfl (fun W' => ?_) ?_
   rotate_left
   ·go_simp; (try with_reducible rfl)
   simp only [Act.put,List.setIfInBounds_toArray,List.set_cons_zero,List.set_cons_succ]
   refine tkS 20 (some 27) rfl rfl (by kernel_rfl) rfl ?_
   simp only [Act.put,List.setIfInBounds_toArray,List.set_cons_zero,List.set_cons_succ]
   refine tkS 21 (some 28) rfl rfl (by kernel_rfl) rfl ?_
   simp only [Act.put,List.setIfInBounds_toArray,List.set_cons_zero,List.set_cons_succ]
   refine tkS 22 (some 29) rfl rfl (by kernel_rfl) rfl ?_
   simp only [Act.put,List.setIfInBounds_toArray,List.set_cons_zero,List.set_cons_succ]
   refine tkV (v:=?_) 23 (some 30) rfl rfl (by kernel_rfl) rfl (fun W' => ?_) ?_
   rotate_left
   ·go_simp; (try with_reducible rfl)
   simp only [Act.put,List.setIfInBounds_toArray,List.set_cons_zero,List.set_cons_succ]
   refine tkV (v:=?_) 24 (some 31) rfl rfl (by kernel_rfl) rfl (fun W' => ?_) ?_
   rotate_left
   ·go_simp; (try with_reducible rfl)
   simp only [Act.put,List.setIfInBounds_toArray,List.set_cons_zero,List.set_cons_succ]
   refine tkS 25 (some 32) rfl rfl (by kernel_rfl) rfl ?_
   simp only [Act.put,List.setIfInBounds_toArray,List.set_cons_zero,List.set_cons_succ]
   refine tkS 26 (some 33) rfl rfl (by kernel_rfl) rfl ?_
   simp only [Act.put,List.setIfInBounds_toArray,List.set_cons_zero,List.set_cons_succ]
   refine tkS 27 (some 34) rfl rfl (by kernel_rfl) rfl ?_
   simp only [Act.put,List.setIfInBounds_toArray,List.set_cons_zero,List.set_cons_succ]
   refine tkV (v:=?_) 28 (some 35) rfl rfl (by kernel_rfl) rfl (fun W' => ?_) ?_
   rotate_left
   ·go_simp; (try with_reducible rfl)
   simp only [Act.put,List.setIfInBounds_toArray,List.set_cons_zero,List.set_cons_succ]
   refine wpAnyH_done (by kernel_rfl) ?_ _
   obtain ⟨xc0,xc1,xc2,xc3,xc4,xc5,xc6⟩:=cells7 hst.x
   obtain ⟨yc0,yc1,yc2,yc3,yc4,yc5,yc6⟩:=cells7 hst.y
   obtain ⟨pf0,pf1,pf2,pf3,pf4,pf5,pf6⟩:=frozen7 hst.p
   obtain ⟨qf0,qf1,qf2,qf3,qf4,qf5,qf6⟩:=frozen7 hst.q
   obtain ⟨xf0,xf1,xf2,xf3,xf4,xf5,xf6⟩:=frozen7 hst.x
   obtain ⟨yf0,yf1,yf2,yf3,yf4,yf5,yf6⟩:=frozen7 hst.y
   clear RP RQ RP2 RQ2
   clear hrule h70 h69
   go_wp2
   all_goals
    refine bodyPost_ret (ret24 (gx:=w.heap.size + 1 + 1) (gy:=w.heap.size + 1 + 1 + 1) rfl rfl rfl ?_ ?_) rfl ⟨rfl,?_⟩
    ·exact ((keep7 (by omega) _ _ _ _ _ _ _).trans (set7 hst.x rfl _ _ _ _ _ _ _))
    ·exact (set7 ((keep7 (by omega) _ _ _ _ _ _ _).trans hst.y) rfl _ _ _ _ _ _ _)
    ·exact (below7 (below7 hst.below (by omega) _ _ _ _ _ _ _) (by omega) _ _ _ _ _ _ _)
  | true =>
   refine tkV (v:=?_) 17 (some 24) rfl rfl (by kernel_rfl) rfl (fun W' => ?_) ?_
   rotate_left
   ·go_simp; (try with_reducible rfl)
   simp only [Act.put,List.setIfInBounds_toArray,List.set_cons_zero,List.set_cons_succ]
   refine tkV (v:=?_) 18 (some 25) rfl rfl (by kernel_rfl) rfl (fun W' => ?_) ?_
   rotate_left
   ·go_simp; (try with_reducible rfl)
   simp only [Act.put,List.setIfInBounds_toArray,List.set_cons_zero,List.set_cons_succ]
   refine tkV (v:=?_) 19 (some 26) rfl rfl (by kernel_rfl) rfl (fun W' => ?_) ?_
   rotate_left
   ·go_simp; (try with_reducible rfl)
   simp only [Act.put,List.setIfInBounds_toArray,List.set_cons_zero,List.set_cons_succ]
   obtain ⟨pc0,pc1,pc2,pc3,pc4,pc5,pc6⟩:=cells7 hst.p
   refine wpAnyH_ready (rs:=[20]) (by kernel_rfl) (by simp) (AllReadyH.cons rfl (fun K hK => ?_) AllReadyH.nil)
   go_simp
   refine hK.out _ _ trivial (fun _ => ?_)
   clear hK K
   clear pc0 pc1 pc2 pc3 pc4 pc5 pc6
   refine wpAnyH_ready (rs:=[21]) (by kernel_rfl) (by simp) (AllReadyH.cons rfl (fun K hK => ?_) AllReadyH.nil)
   go_simp
   refine (RP2 _ _ _ hst).mono ?_
   rintro e w1 ⟨rfl,hst⟩
   refine hK.out _ _ trivial (fun _ => ?_)
   clear hK K
   cases x3 with
   | false =>
    refine tkV (v:=?_) 22 (some 29) rfl rfl (by kernel_rfl) rfl (fun W' => ?_) ?_
    rotate_left
    ·go_simp; (try with_reducible rfl)
    simp only [Act.put,List.setIfInBounds_toArray,List.set_cons_zero,List.set_cons_succ]
    refine tkV (v:=?_) 23 (some 30) rfl rfl (by kernel_rfl) rfl (fun W' => ?_) ?_
    rotate_left
    ·go_simp; (try with_reducible rfl)
    simp only [Act.put,List.setIfInBounds_toArray,List.set_cons_zero,List.set_cons_succ]
    refine tkV (v:=?_) 24 (some 31) rfl rfl (by kernel_rfl) rfl (fun W' => ?_) ?_
    rotate_left
    ·go_simp; (try with_reducible rfl)
    simp only [Act.put,List.setIfInBounds_toArray,List.set_cons_zero,List.set_cons_succ]
    refine tkS 25 (some 32) rfl rfl (by kernel_rfl) rfl ?_
    simp only [Act.put,List.setIfInBounds_toArray,List.set_cons_zero,List.set_cons_succ]
    refine tkS 26 (some 33) rfl rfl (by kernel_rfl) rfl ?_
    simp only [Act.put,List.setIfInBounds_toArray,List.set_cons_zero,List.set_cons_succ]
    refine tkS 27 (some 34) rfl rfl (by kernel_rfl) rfl ?_
    simp only [Act.put,List.setIfInBounds_toArray,List.set_cons_zero,List.set_cons_succ]
    refine tkV (v:=?_) 28 (some 35) rfl rfl (by kernel_rfl) rfl (fun W' => ?_) ?_
    rotate_left
    ·go_simp; (try with_reducible rfl)
    simp only [Act.put,List.setIfInBounds_toArray,List.set_cons_zero,List.set_cons_succ]
    refine wpAnyH_done (by kernel_rfl) ?_ _
    obtain ⟨xc0,xc1,xc2,xc3,xc4,xc5,xc6⟩:=cells7 hst.x
    obtain ⟨yc0,yc1,yc2,yc3,yc4,yc5,yc6⟩:=cells7 hst.y
    obtain ⟨pf0,pf1,pf2,pf3,pf4,pf5,pf6⟩:=frozen7 hst.p
    obtain ⟨qf0,qf1,qf2,qf3,qf4,qf5,qf6⟩:=frozen7 hst.q
    obtain ⟨xf0,xf1,xf2,xf3,xf4,xf5,xf6⟩:=frozen7 hst.x
    obtain ⟨yf0,yf1,yf2,yf3,yf4,yf5,yf6⟩:=frozen7 hst.y
    clear RP RQ RP2 RQ2
    clear hrule h70 h69
    go_wp2
    all_goals
     refine bodyPost_ret (ret24 (gx:=w.heap.size + 1 + 1) (gy:=w.heap.size + 1 + 1 + 1) rfl rfl rfl ?_ ?_) rfl ⟨rfl,?_⟩
     ·exact ((keep7 (by omega) _ _ _ _ _ _ _).trans (set7 hst.x rfl _ _ _ _ _ _ _))
     ·exact (set7 ((keep7 (by omega) _ _ _ _ _ _ _).trans hst.y) rfl _ _ _ _ _ _ _)
     ·exact (below7 (below7 hst.below (by omega) _ _ _ _ _ _ _) (by omega) _ _ _ _ _ _ _)
   | true =>
    refine tkV (v:=?_) 22 (some 29) rfl rfl (by kernel_rfl) rfl (fun W' => ?_) ?_
    rotate_left
    ·go_simp; (try with_reducible rfl)
    simp only [Act.put,List.setIfInBounds_toArray,List.set_cons_zero,List.set_cons_succ]
    refine tkV (v:=?_) 23 (some 30) rfl rfl (by kernel_rfl) rfl (fun W' => ?_) ?_
    rotate_left
    ·go_simp; (try with_reducible rfl)
    simp only [Act.put,List.setIfInBounds_toArray,List.set_cons_zero,List.set_cons_succ]
    refine tkV (v:=?_) 24 (some 31) rfl rfl (by kernel_rfl) rfl (fun W' => ?_) ?_
    rotate_left
    ·go_simp; (try with_reducible rfl)
    simp only [Act.put,List.setIfInBounds_toArray,List.set_cons_zero,List.set_cons_succ]
    obtain ⟨qc0,qc1,qc2,qc3,qc4,qc5,qc6⟩:=cells7 hst.q
    refine wpAnyH_ready (rs:=[25]) (by kernel_rfl) (by simp) (AllReadyH.cons rfl (fun K hK => ?_) AllReadyH.nil)
    go_simp
    refine hK.out _ _ trivial (fun _ => ?_)
    clear hK K
    clear qc0 qc1 qc2 qc3 qc4 qc5 qc6
    refine wpAnyH_ready (rs:=[26]) (by kernel_rfl) (by simp) (AllReadyH.cons rfl (fun K hK => ?_) AllReadyH.nil)
    go_simp
    refine (RQ2 _ _ _ hst).mono ?_
    rintro e w1 ⟨rfl,hst⟩
    refine hK.out _ _ trivial (fun _ => ?_)
    clear hK K
    cases x4 with
    | false =>
     refine tkV (v:=?_) 27 (some 34) rfl rfl (by kernel_rfl) rfl (fun W' => ?_) ?_
     rotate_left
     ·go_simp; (try with_reducible rfl)
     simp only [Act.put,List.setIfInBounds_toArray,List.set_cons_zero,List.set_cons_succ]
     refine tkV (v:=?_) 28 (some 35) rfl rfl (by kernel_rfl) rfl (fun W' => ?_) ?_
     rotate_left
     ·go_simp; (try with_reducible rfl)
     simp only [Act.put,List.setIfInBounds_toArray,List.set_cons_zero,List.set_cons_succ]
     refine wpAnyH_done (by kernel_rfl) ?_ _
     obtain ⟨xc0,xc1,xc2,xc3,xc4,xc5,xc6⟩:=cells7 hst.x
     obtain ⟨yc0,yc1,yc2,yc3,yc4,yc5,yc6⟩:=cells7 hst.y
     obtain ⟨pf0,pf1,pf2,pf3,pf4,pf5,pf6⟩:=frozen7 hst.p
     obtain ⟨qf0,qf1,qf2,qf3,qf4,qf5,qf6⟩:=frozen7 hst.q
     obtain ⟨xf0,xf1,xf2,xf3,xf4,xf5,xf6⟩:=frozen7 hst.x
     obtain ⟨yf0,yf1,yf2,yf3,yf4,yf5,yf6⟩:=frozen7 hst.y
     clear RP RQ RP2 RQ2
     clear hrule h70 h69
     go_wp2
     all_goals
      refine bodyPost_ret (ret24 (gx:=w.heap.size + 1 + 1) (gy:=w.heap.size + 1 + 1 + 1) rfl rfl rfl ?_ ?_) rfl ⟨rfl,?_⟩
      ·exact ((keep7 (by omega) _ _ _ _ _ _ _).trans (set7 hst.x rfl _ _ _ _ _ _ _))
      ·exact (set7 ((keep7 (by omega) _ _ _ _ _ _ _).trans hst.y) rfl _ _ _ _ _ _ _)
      ·exact (below7 (below7 hst.below (by omega) _ _ _ _ _ _ _) (by omega) _ _ _ _ _ _ _)
    | true =>
     refine tkV (v:=?_) 27 (some 34) rfl rfl (by kernel_rfl) rfl (fun W' => ?_) ?_
     rotate_left
     ·go_simp; (try with_reducible rfl)
     simp only [Act.put,List.setIfInBounds_toArray,List.set_cons_zero,List.set_cons_succ]
     refine tkV (v:=?_) 28 (some 35) rfl rfl (by kernel_rfl) rfl (fun W' => ?_) ?_
     rotate_left
     ·go_simp; (try with_reducible rfl)
     simp only [Act.put,List.setIfInBounds_toArray,List.set_cons_zero,List.set_cons_succ]
     refine wpAnyH_done (by kernel_rfl) ?_ _
     obtain ⟨pc0,pc1,pc2,pc3,pc4,pc5,pc6⟩:=cells7 hst.p
     obtain ⟨qc0,qc1,qc2,qc3,qc4,qc5,qc6⟩:=cells7 hst.q
     obtain ⟨xc0,xc1,xc2,xc3,xc4,xc5,xc6⟩:=cells7 hst.x
     obtain ⟨yc0,yc1,yc2,yc3,yc4,yc5,yc6⟩:=cells7 hst.y
     obtain ⟨pf0,pf1,pf2,pf3,pf4,pf5,pf6⟩:=frozen7 hst.p
     obtain ⟨qf0,qf1,qf2,qf3,qf4,qf5,qf6⟩:=frozen7 hst.q
     obtain ⟨xf0,xf1,xf2,xf3,xf4,xf5,xf6⟩:=frozen7 hst.x
     obtain ⟨yf0,yf1,yf2,yf3,yf4,yf5,yf6⟩:=frozen7 hst.y
     clear RP RQ RP2 RQ2
     clear hrule h70 h69
     go_wp2
     all_goals go_region
     all_goals go_wp2
     all_goals
      refine bodyPost_ret (ret24 (gx:=w.heap.size + 1 + 1) (gy:=w.heap.size + 1 + 1 + 1) rfl rfl rfl ?_ ?_) rfl ⟨rfl,?_⟩
      ·exact drew_at ((keep7 (by omega) _ _ _ _ _ _ _).trans (set7 hst.x rfl _ _ _ _ _ _ _))
      ·exact drew_at (set7 ((keep7 (by omega) _ _ _ _ _ _ _).trans hst.y) rfl _ _ _ _ _ _ _)
      ·exact Below.drew (below7 (below7 hst.below (by omega) _ _ _ _ _ _ _) (by omega) _ _ _ _ _ _ _)
end Go.Proofs.YthhohbidjhcjeaaGreatDoor.H
