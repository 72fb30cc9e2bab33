/- Printed by a program of this place out of the translation: what the functions compute, and their contracts. -/
import Derived.Test.YthhohbidjhcjeaaDoorTM1
import Derived.Test.YthhohbidjhcjeaaDoorTM2
import Derived.WalkKit
import Derived.Laws.Strings3
import Derived.Laws.EntriesVeiled
import Derived.Test.YthhohbidjhcjeaaDoorWNEv
import Derived.Test.YthhohbidjhcjeaaDoorWMore
import Derived.Maps.OwnIn
namespace Go.Proofs.YthhohbidjhcjeaaDoor.Q
open Go.RowKit Go.Proofs.YthhohbidjhcjeaaDoorW.PrintWords Go.Proofs.YthhohbidjhcjeaaDoorW.PrintLast Go.Proofs.YthhohbidjhcjeaaDoorW.PrintMore
attribute [local go_sem] max2_int min2_int max_two min_two max_three min_three max_four min_four   -- for this text's walks alone
set_option linter.unusedVariables false
set_option linter.unusedSimpArgs false

/-! ### commute_apart: function 106 -/
mutual
def commute_apart.l0 : Nat → List ByteArray → List ByteArray → Int → Int → Option (Bool)
 | 0,_,_,_,_ => none
 | k + 1,x1,x9,x10,x11 => if x11 < x10 then (if 0 ≤ x11 then (if x11 < (x9.length : Int) then (commute_apart.l1 k x1 (rdOf ByteArray.empty x9 x11) x9 x10 x11 x1 (x1.length : Int) 0) else (none)) else (none)) else (some true)
def commute_apart.l1 : Nat → List ByteArray → ByteArray → List ByteArray → Int → Int → List ByteArray → Int → Int → Option (Bool)
 | 0,_,_,_,_,_,_,_,_ => none
 | k + 1,x1,x6,x9,x10,x11,x15,x16,x17 => if x17 < x16 then (if 0 ≤ x17 then (if x17 < (x15.length : Int) then ((path_Apart.f x6 (rdOf ByteArray.empty x15 x17)).bind fun t172 => (if t172 = true then (commute_apart.l1 k x1 x6 x9 x10 x11 x15 x16 (wrap64 (x17 + 1))) else (some false))) else (none)) else (none)) else (commute_apart.l0 k x1 x9 x10 (wrap64 (x11 + 1)))
end
def commute_apart.f (k : Nat) (l0 : List ByteArray) (l1 : List ByteArray) : Option (Bool):=commute_apart.l0 k l1 l0 (l0.length : Int) 0
theorem commute_apart.mono_l : ∀ k,(∀ y0 y1 y2 y3,LeO (commute_apart.l0 k y0 y1 y2 y3) (commute_apart.l0 (k + 1) y0 y1 y2 y3)) ∧ (∀ y0 y1 y2 y3 y4 y5 y6 y7,LeO (commute_apart.l1 k y0 y1 y2 y3 y4 y5 y6 y7) (commute_apart.l1 (k + 1) y0 y1 y2 y3 y4 y5 y6 y7))
 | 0 => ⟨fun _ _ _ _ r h => by simp [commute_apart.l0] at h,fun _ _ _ _ _ _ _ _ r h => by simp [commute_apart.l1] at h⟩
 | k + 1 => by
  obtain ⟨ih0,ih1⟩:=commute_apart.mono_l k
  refine ⟨?_,?_⟩
  ·intro y0 y1 y2 y3
   unfold commute_apart.l0
   repeat' first
   | (with_reducible exact ih0 _ _ _ _)
   | (with_reducible exact ih1 _ _ _ _ _ _ _ _)
   | (with_reducible exact LeO.refl _)
   | (with_reducible exact LeO.none _)
   | (with_reducible refine LeO.ite ?_ ?_)
   | (with_reducible refine LeO.bind ?_ (fun _ => ?_))
   | exact ih0 _ _ _ _
   | exact ih1 _ _ _ _ _ _ _ _
   | exact LeO.none _
   | refine LeO.ite ?_ ?_
   | refine LeO.bind ?_ (fun _ => ?_)
  ·intro y0 y1 y2 y3 y4 y5 y6 y7
   unfold commute_apart.l1
   repeat' first
   | (with_reducible exact ih0 _ _ _ _)
   | (with_reducible exact ih1 _ _ _ _ _ _ _ _)
   | (with_reducible exact LeO.refl _)
   | (with_reducible exact LeO.none _)
   | (with_reducible refine LeO.ite ?_ ?_)
   | (with_reducible refine LeO.bind ?_ (fun _ => ?_))
   | exact ih0 _ _ _ _
   | exact ih1 _ _ _ _ _ _ _ _
   | exact LeO.none _
   | refine LeO.ite ?_ ?_
   | refine LeO.bind ?_ (fun _ => ?_)
theorem commute_apart.mono : ∀ a0 a1 k,LeO (commute_apart.f k a0 a1) (commute_apart.f (k + 1) a0 a1):=by
 intro a0 a1 k
 obtain ⟨ih0,ih1⟩:=commute_apart.mono_l k
 unfold commute_apart.f
 repeat' first
   | (with_reducible exact ih0 _ _ _ _)
   | (with_reducible exact ih1 _ _ _ _ _ _ _ _)
   | (with_reducible exact LeO.refl _)
   | (with_reducible exact LeO.none _)
   | (with_reducible refine LeO.ite ?_ ?_)
   | (with_reducible refine LeO.bind ?_ (fun _ => ?_))
   | exact ih0 _ _ _ _
   | exact ih1 _ _ _ _ _ _ _ _
   | exact LeO.none _
   | refine LeO.ite ?_ ?_
   | refine LeO.bind ?_ (fun _ => ?_)
set_option maxHeartbeats 8000000 in
set_option maxRecDepth 100000 in
theorem commute_apart.calls (k : Nat) (A0 : Option Addr) (c0 : Nat) (l0 : List ByteArray) (A1 : Option Addr) (c1 : Nat) (l1 : List ByteArray) (r : Bool) (w : World) (hr0 : Kd.C Kd.string w A0 l0.length l0) (hc0 : l0.length ≤ c0) (hr1 : Kd.C Kd.string w A1 l1.length l1) (hc1 : l1.length ≤ c1) (h : commute_apart.f k l0 l1 = some r) :
  Calls Tryd.prog 106 #[.slice A0 l0.length c0,.slice A1 l1.length c1] w fun e w' => e = .returned (.bool r) ∧ Drawn0 w w':=by
 have HR0:=Aside0.mk hr0
 have HC0:=Aside0.mk hc0
 clear hr0 hc0
 have HR1:=Aside0.mk hr1
 have HC1:=Aside0.mk hc1
 clear hr1 hc1
 have H : (commute_apart.l0 k l1 l0 (l0.length : Int) 0) = some r:=h
 clear h
 have H':=Aside0.mk H
 clear H
 go_enter Tryd.func106,Tryd.ntmps106
 go_wp2
 go_loopg [11] k (fun kq v11 w' => ∃ (x11_1 : Int),v11 = .int .i64 x11_1 ∧ Aside0 (commute_apart.l0 kq l1 l0 (l0.length : Int) x11_1 = some r) ∧ Aside0 (kq ≤ k) ∧ Drawn0 w w')
 case atStart => exact ⟨(0),(by first | rfl | (simp; done) | (simp [*]; done)),H',⟨Nat.le_refl _⟩,by repeat (first | exact Drawn0.refl _ | apply Drawn0.step)⟩
 case round =>
  clear H'
  try clear c1
  try clear p2
  obtain ⟨x11_1,rfl,HA,HK1,⟨m1,rfl⟩⟩:=hrel
  cases gk with
  | zero => exact absurd HA.out (by simp [commute_apart.l0])
  | succ k1 =>
   have H:=HA.out
   clear HA
   simp only [commute_apart.l0] at H
   by_cases c3 : x11_1 < (l0.length : Int)
   ·rw [if_pos c3] at H
    have c3b0 : decide (x11_1 < (l0.length : Int)) = true:=decide_eq_true c3
    clear c3
    by_cases c4 : 0 ≤ x11_1
    ·rw [if_pos c4] at H
     have c4b0 : decide (0 ≤ x11_1) = true:=decide_eq_true c4
     clear c4
     by_cases c5 : x11_1 < (l0.length : Int)
     ·rw [if_pos c5] at H
      have c5b0 : decide (x11_1 < (l0.length : Int)) = true:=decide_eq_true c5
      clear c5
      have H':=Aside0.mk H
      clear H
      have p170 : 0 ≤ (x11_1 : Int):=of_decide_eq_true (by first | (with_reducible assumption) | assumption)
      have q170 : x11_1 < (l0.length : Int):=of_decide_eq_true (by first | (with_reducible assumption) | assumption)
      obtain ⟨ad170,e170,hx170_0⟩:=Kd.at_string HR0.out x11_1 p170 q170
      cases e170
      replace p170:=eq_true p170
      replace q170:=eq_true q170
      go_wp2
      go_loopg [17] k1 (fun kq v17 w' => ∃ (x17_2 : Int),v17 = .int .i64 x17_2 ∧ Aside0 (commute_apart.l1 kq l1 (rdOf ByteArray.empty l0 x11_1) l0 (l0.length : Int) x11_1 l1 (l1.length : Int) x17_2 = some r) ∧ Aside0 (kq ≤ k1) ∧ Drawn0 w w')
      case atStart => exact ⟨(0),(by first | rfl | (simp; done) | (simp [*]; done)),H',⟨Nat.le_refl _⟩,by repeat (first | exact Drawn0.refl _ | apply Drawn0.step)⟩
      case round =>
       clear H'
       try clear c1
       try clear p1
       try clear q1
       try clear hx1
       try clear p2
       try clear c3
       try clear c3b0
       try clear c4
       try clear c4b0
       try clear c5
       try clear c5b0
       try clear hx170_0
       try clear p170
       try clear p2
       try clear q170
       obtain ⟨x17_2,rfl,HA,HK2,⟨m2,rfl⟩⟩:=hrel
       cases gk with
       | zero => exact absurd HA.out (by simp [commute_apart.l1])
       | succ k2 =>
        have H:=HA.out
        clear HA
        simp only [commute_apart.l1] at H
        by_cases c6 : x17_2 < (l1.length : Int)
        ·rw [if_pos c6] at H
         have c6b0 : decide (x17_2 < (l1.length : Int)) = true:=decide_eq_true c6
         clear c6
         by_cases c7 : 0 ≤ x17_2
         ·rw [if_pos c7] at H
          have c7b0 : decide (0 ≤ x17_2) = true:=decide_eq_true c7
          clear c7
          by_cases c8 : x17_2 < (l1.length : Int)
          ·rw [if_pos c8] at H
           have c8b0 : decide (x17_2 < (l1.length : Int)) = true:=decide_eq_true c8
           clear c8
           replace H:=Option.bind_eq_some_iff.mp H
           obtain ⟨t172,A90,H⟩:=H
           replace H : (if t172 = true then (commute_apart.l1 k2 l1 (rdOf ByteArray.empty l0 x11_1) l0 (l0.length : Int) x11_1 l1 (l1.length : Int) (wrap64 (x17_2 + 1))) else (some false)) = some r:=H
           have A9:=Aside0.mk A90
           clear A90
           by_cases c10 : t172 = true
           ·subst c10
            have H1 : (commute_apart.l1 k2 l1 (rdOf ByteArray.empty l0 x11_1) l0 (l0.length : Int) x11_1 l1 (l1.length : Int) (wrap64 (x17_2 + 1))) = some r:=by rw [if_pos rfl] at H; exact H
            clear H
            have H:=H1
            clear H1
            have H':=Aside0.mk H
            clear H
            have p171 : 0 ≤ (x17_2 : Int):=of_decide_eq_true (by first | (with_reducible assumption) | assumption)
            have q171 : x17_2 < (l1.length : Int):=of_decide_eq_true (by first | (with_reducible assumption) | assumption)
            obtain ⟨ad171,e171,hx171_0⟩:=Kd.at_string HR1.out x17_2 p171 q171
            cases e171
            replace p171:=eq_true p171
            replace q171:=eq_true q171
            go_wp2_with (first | ((with_reducible refine gate_callee (f:=48) rfl ?_); refine goesL_ (some 23) rfl rfl Tryd.func48 (by kernel_rfl) rfl #[.string (rdOf ByteArray.empty l0 x11_1),.string (rdOf ByteArray.empty l1 x17_2)] rfl (by (try simp only [List.map_toArray,List.map_cons,List.map_nil]); first | done | rfl | (simp only [List.length_drop,List.length_take]; rfl)) ?_; (with_reducible refine (path_Apart.calls (rdOf ByteArray.empty l0 x11_1) (rdOf ByteArray.empty l1 x17_2) true _ A9.out).mono ?_); rintro e w' ⟨rfl,⟨nd,rfl⟩⟩; refine ⟨_,rfl,?_⟩))
            go_roundg k2
            case measure => have:=HK1.out; have:=HK2.out; omega
            case rel => exact ⟨(wrap64 (x17_2 + 1)),(by first | rfl | (simp; done) | (simp [*]; done)),H',⟨by have:=HK1.out; have:=HK2.out; omega⟩,by repeat (first | exact Drawn0.refl _ | apply Drawn0.step)⟩
           ·replace c10:=Bool.eq_false_iff.mpr c10
            subst c10
            have H1 : (some false) = some r:=by rw [if_neg (show ¬ (false = true) by decide)] at H; exact H
            clear H
            have H:=H1
            clear H1
            obtain rfl:=Option.some.inj H
            have p171 : 0 ≤ (x17_2 : Int):=of_decide_eq_true (by first | (with_reducible assumption) | assumption)
            have q171 : x17_2 < (l1.length : Int):=of_decide_eq_true (by first | (with_reducible assumption) | assumption)
            obtain ⟨ad171,e171,hx171_0⟩:=Kd.at_string HR1.out x17_2 p171 q171
            cases e171
            replace p171:=eq_true p171
            replace q171:=eq_true q171
            go_wp2_with (first | ((with_reducible refine gate_callee (f:=48) rfl ?_); refine goesL_ (some 23) rfl rfl Tryd.func48 (by kernel_rfl) rfl #[.string (rdOf ByteArray.empty l0 x11_1),.string (rdOf ByteArray.empty l1 x17_2)] rfl (by (try simp only [List.map_toArray,List.map_cons,List.map_nil]); first | done | rfl | (simp only [List.length_drop,List.length_take]; rfl)) ?_; (with_reducible refine (path_Apart.calls (rdOf ByteArray.empty l0 x11_1) (rdOf ByteArray.empty l1 x17_2) false _ A9.out).mono ?_); rintro e w' ⟨rfl,⟨nd,rfl⟩⟩; refine ⟨_,rfl,?_⟩))
            go_ret
            exact ⟨by first | rfl | (simp; done) | (simp [*]; done),by repeat (first | exact Drawn0.refl _ | apply Drawn0.step)⟩
          ·rw [if_neg c8] at H
           exact absurd H (by simp)
         ·rw [if_neg c7] at H
          exact absurd H (by simp)
        ·rw [if_neg c6] at H
         have c6b0 : decide (x17_2 < (l1.length : Int)) = false:=decide_eq_false c6
         clear c6
         have H':=Aside0.mk H
         clear H
         go_wp2
         go_roundg k2
         case measure => have:=HK1.out; have:=HK2.out; omega
         case rel => exact ⟨(wrap64 (x11_1 + 1)),(by first | rfl | (simp; done) | (simp [*]; done)),H',⟨by have:=HK1.out; have:=HK2.out; omega⟩,by repeat (first | exact Drawn0.refl _ | apply Drawn0.step)⟩
     ·rw [if_neg c5] at H
      exact absurd H (by simp)
    ·rw [if_neg c4] at H
     exact absurd H (by simp)
   ·rw [if_neg c3] at H
    have c3b0 : decide (x11_1 < (l0.length : Int)) = false:=decide_eq_false c3
    clear c3
    obtain rfl:=Option.some.inj H
    go_wp2
    go_ret
    exact ⟨by first | rfl | (simp; done) | (simp [*]; done),by repeat (first | exact Drawn0.refl _ | apply Drawn0.step)⟩

-- NOT PRINTED: function 107 (commute_paths)

-- NOT PRINTED: function 84 (commute_still)

-- NOT PRINTED: function 85 (commute_beside)

-- NOT PRINTED: function 86 (commute_both)

-- NOT PRINTED: function 52 (commute_rules)

/-! ### commute_class: function 53 -/
def commute_class.f (a0_0 : Int) (a0_1 : ByteArray) (a0_2 : ByteArray) (a0_3 : ByteArray) (a0_4 : Int) (l0_5 : List ByteArray) (l0_6 : List ByteArray) : Option (Int):=if a0_0 = 10 then (some 2) else (if a0_0 ≥ 7 then (some 1) else (some 0))
set_option maxHeartbeats 8000000 in
set_option maxRecDepth 100000 in
theorem commute_class.calls (a0_0 : Int) (a0_1 : ByteArray) (a0_2 : ByteArray) (a0_3 : ByteArray) (a0_4 : Int) (A0_5 : Option Addr) (c0_5 : Nat) (l0_5 : List ByteArray) (A0_6 : Option Addr) (c0_6 : Nat) (l0_6 : List ByteArray) (r : Int) (w : World) (hr0_5 : Kd.C Kd.string w A0_5 l0_5.length l0_5) (hc0_5 : l0_5.length ≤ c0_5) (hr0_6 : Kd.C Kd.string w A0_6 l0_6.length l0_6) (hc0_6 : l0_6.length ≤ c0_6) (h : commute_class.f a0_0 a0_1 a0_2 a0_3 a0_4 l0_5 l0_6 = some r) :
  Calls Tryd.prog 53 #[.agg #[.int .i64 a0_0,.string a0_1,.string a0_2,.string a0_3,.int .i64 a0_4,.slice A0_5 l0_5.length c0_5,.slice A0_6 l0_6.length c0_6]] w fun e w' => e = .returned (.int .i64 r) ∧ Below w.heap.size w w':=by
 have hu24:=Tryd.underlying24
 have HR0_5:=Aside0.mk hr0_5
 have HC0_5:=Aside0.mk hc0_5
 clear hr0_5 hc0_5
 have HR0_6:=Aside0.mk hr0_6
 have HC0_6:=Aside0.mk hc0_6
 clear hr0_6 hc0_6
 have HB:=Aside0.mk (Below.refl w.heap.size w)
 have H : (if a0_0 = 10 then (some 2) else (if a0_0 ≥ 7 then (some 1) else (some 0))) = some r:=h
 clear h
 by_cases c2 : a0_0 = 10
 ·rw [if_pos c2] at H
  have c2b0 : (a0_0 == 10) = true:=beq_iff_eq.mpr c2
  have c2b1 : (a0_0 != 10) = false:=bne_eq_false_iff_eq.mpr c2
  clear c2
  obtain rfl:=Option.some.inj H
  go_enter Tryd.func53,Tryd.ntmps53
  go_wp2_with (first | ((with_reducible refine gate_dst (N:=1) rfl ?_); refine box_event ?hg (N:=1) ?hd (cs:=#[.int .i64 a0_0,.string a0_1,.string a0_2,.string a0_3,.int .i64 a0_4,.slice A0_5 l0_5.length c0_5,.slice A0_6 l0_6.length c0_6]) (t:=24) ?hr ?_; (case hd => rfl); (case hg => rfl); (case hr => first | (go_simp; done) | (go_simp; rfl)); intro gb179 hg w3 hbox hb; have n0_:=Aside0.mk (below_step (by repeat (first | (with_reducible first | exact HB.out | apply below_alloc | apply pw_below_drewN | apply below_drew1) | exact HB.out)) hb); have n1_:=Aside0.mk (hbox); have n2_:=Aside0.mk ((by rw [hg]; exact (below_size (by repeat (first | (with_reducible first | exact HB.out | apply below_alloc | apply pw_below_drewN | apply below_drew1) | exact HB.out))) : w.heap.size ≤ gb179)); have n3_:=Aside0.mk ((by rw [hg]; exact (below_size (by repeat (first | (with_reducible first | exact HB.out | apply below_alloc | apply pw_below_drewN | apply below_drew1) | exact HB.out))) : w.heap.size ≤ gb179)); clear HB; have HB:=n0_; have BK179:=n1_; have GW179:=n2_; have GE179:=n3_; clear n0_ n1_ n2_ n3_; clear hb hbox hg; have hcz4_0 : w3.cell? ⟨gb179,0,none⟩ = some (.int .i64 a0_0):=(blk_cell BK179.out 0).trans rfl; have hcz4_1 : w3.cell? ⟨gb179,1,none⟩ = some (.string a0_1):=(blk_cell BK179.out 1).trans rfl; have hcz4_2 : w3.cell? ⟨gb179,2,none⟩ = some (.string a0_2):=(blk_cell BK179.out 2).trans rfl; have hcz4_3 : w3.cell? ⟨gb179,3,none⟩ = some (.string a0_3):=(blk_cell BK179.out 3).trans rfl; have hcz4_4 : w3.cell? ⟨gb179,4,none⟩ = some (.int .i64 a0_4):=(blk_cell BK179.out 4).trans rfl; have hcz4_5 : w3.cell? ⟨gb179,5,none⟩ = some (.slice A0_5 l0_5.length c0_5):=(blk_cell BK179.out 5).trans rfl; have hcz4_6 : w3.cell? ⟨gb179,6,none⟩ = some (.slice A0_6 l0_6.length c0_6):=(blk_cell BK179.out 6).trans rfl; have hfz4_0:=blk_frozen BK179.out 0; have hfz4_1:=blk_frozen BK179.out 1; have hfz4_2:=blk_frozen BK179.out 2; have hfz4_3:=blk_frozen BK179.out 3; have hfz4_4:=blk_frozen BK179.out 4; have hfz4_5:=blk_frozen BK179.out 5; have hfz4_6:=blk_frozen BK179.out 6))
  go_ret
  exact ⟨by first | rfl | (simp [errW_none,errW_some] <;> rfl) | (simp [*,errW_none,errW_some] <;> rfl),by repeat (first | (with_reducible first | exact HB.out | apply below_alloc | apply pw_below_drewN | apply below_drew1 | refine below_set ?_ GE179.out) | exact HB.out)⟩
 ·rw [if_neg c2] at H
  have c2b0 : (a0_0 == 10) = false:=beq_eq_false_iff_ne.mpr c2
  have c2b1 : (a0_0 != 10) = true:=bne_iff_ne.mpr c2
  by_cases c5 : a0_0 ≥ 7
  ·rw [if_pos c5] at H
   have c5b0 : decide (7 ≤ a0_0) = true:=decide_eq_true c5
   clear c5
   obtain rfl:=Option.some.inj H
   go_enter Tryd.func53,Tryd.ntmps53
   go_wp2_with (first | ((with_reducible refine gate_dst (N:=1) rfl ?_); refine box_event ?hg (N:=1) ?hd (cs:=#[.int .i64 a0_0,.string a0_1,.string a0_2,.string a0_3,.int .i64 a0_4,.slice A0_5 l0_5.length c0_5,.slice A0_6 l0_6.length c0_6]) (t:=24) ?hr ?_; (case hd => rfl); (case hg => rfl); (case hr => first | (go_simp; done) | (go_simp; rfl)); intro gb179 hg w6 hbox hb; have n0_:=Aside0.mk (below_step (by repeat (first | (with_reducible first | exact HB.out | apply below_alloc | apply pw_below_drewN | apply below_drew1) | exact HB.out)) hb); have n1_:=Aside0.mk (hbox); have n2_:=Aside0.mk ((by rw [hg]; exact (below_size (by repeat (first | (with_reducible first | exact HB.out | apply below_alloc | apply pw_below_drewN | apply below_drew1) | exact HB.out))) : w.heap.size ≤ gb179)); have n3_:=Aside0.mk ((by rw [hg]; exact (below_size (by repeat (first | (with_reducible first | exact HB.out | apply below_alloc | apply pw_below_drewN | apply below_drew1) | exact HB.out))) : w.heap.size ≤ gb179)); clear HB; have HB:=n0_; have BK179:=n1_; have GW179:=n2_; have GE179:=n3_; clear n0_ n1_ n2_ n3_; clear hb hbox hg; have hcz7_0 : w6.cell? ⟨gb179,0,none⟩ = some (.int .i64 a0_0):=(blk_cell BK179.out 0).trans rfl; have hcz7_1 : w6.cell? ⟨gb179,1,none⟩ = some (.string a0_1):=(blk_cell BK179.out 1).trans rfl; have hcz7_2 : w6.cell? ⟨gb179,2,none⟩ = some (.string a0_2):=(blk_cell BK179.out 2).trans rfl; have hcz7_3 : w6.cell? ⟨gb179,3,none⟩ = some (.string a0_3):=(blk_cell BK179.out 3).trans rfl; have hcz7_4 : w6.cell? ⟨gb179,4,none⟩ = some (.int .i64 a0_4):=(blk_cell BK179.out 4).trans rfl; have hcz7_5 : w6.cell? ⟨gb179,5,none⟩ = some (.slice A0_5 l0_5.length c0_5):=(blk_cell BK179.out 5).trans rfl; have hcz7_6 : w6.cell? ⟨gb179,6,none⟩ = some (.slice A0_6 l0_6.length c0_6):=(blk_cell BK179.out 6).trans rfl; have hfz7_0:=blk_frozen BK179.out 0; have hfz7_1:=blk_frozen BK179.out 1; have hfz7_2:=blk_frozen BK179.out 2; have hfz7_3:=blk_frozen BK179.out 3; have hfz7_4:=blk_frozen BK179.out 4; have hfz7_5:=blk_frozen BK179.out 5; have hfz7_6:=blk_frozen BK179.out 6))
   go_ret
   exact ⟨by first | rfl | (simp [errW_none,errW_some] <;> rfl) | (simp [*,errW_none,errW_some] <;> rfl),by repeat (first | (with_reducible first | exact HB.out | apply below_alloc | apply pw_below_drewN | apply below_drew1 | refine below_set ?_ GE179.out) | exact HB.out)⟩
  ·rw [if_neg c5] at H
   have c5b0 : decide (7 ≤ a0_0) = false:=decide_eq_false c5
   clear c5
   obtain rfl:=Option.some.inj H
   go_enter Tryd.func53,Tryd.ntmps53
   go_wp2_with (first | ((with_reducible refine gate_dst (N:=1) rfl ?_); refine box_event ?hg (N:=1) ?hd (cs:=#[.int .i64 a0_0,.string a0_1,.string a0_2,.string a0_3,.int .i64 a0_4,.slice A0_5 l0_5.length c0_5,.slice A0_6 l0_6.length c0_6]) (t:=24) ?hr ?_; (case hd => rfl); (case hg => rfl); (case hr => first | (go_simp; done) | (go_simp; rfl)); intro gb179 hg w8 hbox hb; have n0_:=Aside0.mk (below_step (by repeat (first | (with_reducible first | exact HB.out | apply below_alloc | apply pw_below_drewN | apply below_drew1) | exact HB.out)) hb); have n1_:=Aside0.mk (hbox); have n2_:=Aside0.mk ((by rw [hg]; exact (below_size (by repeat (first | (with_reducible first | exact HB.out | apply below_alloc | apply pw_below_drewN | apply below_drew1) | exact HB.out))) : w.heap.size ≤ gb179)); have n3_:=Aside0.mk ((by rw [hg]; exact (below_size (by repeat (first | (with_reducible first | exact HB.out | apply below_alloc | apply pw_below_drewN | apply below_drew1) | exact HB.out))) : w.heap.size ≤ gb179)); clear HB; have HB:=n0_; have BK179:=n1_; have GW179:=n2_; have GE179:=n3_; clear n0_ n1_ n2_ n3_; clear hb hbox hg; have hcz9_0 : w8.cell? ⟨gb179,0,none⟩ = some (.int .i64 a0_0):=(blk_cell BK179.out 0).trans rfl; have hcz9_1 : w8.cell? ⟨gb179,1,none⟩ = some (.string a0_1):=(blk_cell BK179.out 1).trans rfl; have hcz9_2 : w8.cell? ⟨gb179,2,none⟩ = some (.string a0_2):=(blk_cell BK179.out 2).trans rfl; have hcz9_3 : w8.cell? ⟨gb179,3,none⟩ = some (.string a0_3):=(blk_cell BK179.out 3).trans rfl; have hcz9_4 : w8.cell? ⟨gb179,4,none⟩ = some (.int .i64 a0_4):=(blk_cell BK179.out 4).trans rfl; have hcz9_5 : w8.cell? ⟨gb179,5,none⟩ = some (.slice A0_5 l0_5.length c0_5):=(blk_cell BK179.out 5).trans rfl; have hcz9_6 : w8.cell? ⟨gb179,6,none⟩ = some (.slice A0_6 l0_6.length c0_6):=(blk_cell BK179.out 6).trans rfl; have hfz9_0:=blk_frozen BK179.out 0; have hfz9_1:=blk_frozen BK179.out 1; have hfz9_2:=blk_frozen BK179.out 2; have hfz9_3:=blk_frozen BK179.out 3; have hfz9_4:=blk_frozen BK179.out 4; have hfz9_5:=blk_frozen BK179.out 5; have hfz9_6:=blk_frozen BK179.out 6))
   go_ret
   exact ⟨by first | rfl | (simp [errW_none,errW_some] <;> rfl) | (simp [*,errW_none,errW_some] <;> rfl),by repeat (first | (with_reducible first | exact HB.out | apply below_alloc | apply pw_below_drewN | apply below_drew1 | refine below_set ?_ GE179.out) | exact HB.out)⟩

-- NOT PRINTED: function 24 (commute_Commute)

-- NOT PRINTED: function 26 (commute_Past)

-- NOT PRINTED: function 23 (counterpanelaw10_head)

/-! ### counterpaneref04_Within: function 59 -/
def counterpaneref04_Within.f (a0 : ByteArray) (a1 : ByteArray) : Option (Bool):=if a0.toList = a1.toList then (some true) else (if (a0.size : Int) > (a1.size : Int) then (if 0 ≤ (a1.size : Int) then (if (a1.size : Int) ≤ (a0.size : Int) then (if (a0.extract 0 ((a1.size : Int) : Int).toNat).toList = a1.toList then (if (a1.size : Int) < (a0.size : Int) then (some ((bt a0 (a1.size : Int)) == 47)) else (none)) else (some false)) else (none)) else (none)) else (some false))
set_option maxHeartbeats 8000000 in
set_option maxRecDepth 100000 in
theorem counterpaneref04_Within.calls (a0 : ByteArray) (a1 : ByteArray) (r : Bool) (w : World) (h : counterpaneref04_Within.f a0 a1 = some r) :
  Calls Tryd.prog 59 #[.string a0,.string a1] w fun e w' => e = .returned (.bool r) ∧ Drawn0 w w':=by
 have H : (if a0.toList = a1.toList then (some true) else (if (a0.size : Int) > (a1.size : Int) then (if 0 ≤ (a1.size : Int) then (if (a1.size : Int) ≤ (a0.size : Int) then (if (a0.extract 0 ((a1.size : Int) : Int).toNat).toList = a1.toList then (if (a1.size : Int) < (a0.size : Int) then (some ((bt a0 (a1.size : Int)) == 47)) else (none)) else (some false)) else (none)) else (none)) else (some false))) = some r:=h
 clear h
 by_cases c3 : a0.toList = a1.toList
 ·rw [if_pos c3] at H
  have c3b0 : (a0.toList == a1.toList) = true:=beq_iff_eq.mpr c3
  have c3b1 : (a0.toList != a1.toList) = false:=bne_eq_false_iff_eq.mpr c3
  clear c3
  obtain rfl:=Option.some.inj H
  (try simp only [Int.toNat_natCast] at *)
  go_enter Tryd.func59,Tryd.ntmps59
  go_wp2
  go_ret
  exact ⟨by first | rfl | (simp; done) | (simp [*]; done) | (simp_all [bt]; done),by repeat (first | exact Drawn0.refl _ | apply Drawn0.step)⟩
 ·rw [if_neg c3] at H
  have c3b0 : (a0.toList == a1.toList) = false:=beq_eq_false_iff_ne.mpr c3
  have c3b1 : (a0.toList != a1.toList) = true:=bne_iff_ne.mpr c3
  by_cases c4 : (a0.size : Int) > (a1.size : Int)
  ·rw [if_pos c4] at H
   have c4b0 : decide ((a1.size : Int) < (a0.size : Int)) = true:=decide_eq_true c4
   have c4b1 : decide (a1.size < a0.size) = true:=decide_eq_true (Int.ofNat_lt.mp c4)
   clear c4
   by_cases c5 : 0 ≤ (a1.size : Int)
   ·rw [if_pos c5] at H
    have c5b0:=eq_true c5
    have c5b1 : decide (0 ≤ (a1.size : Int)) = true:=decide_eq_true c5
    clear c5
    by_cases c6 : (a1.size : Int) ≤ (a0.size : Int)
    ·rw [if_pos c6] at H
     have c6b0:=eq_true c6
     have c6b1 : decide ((a1.size : Int) ≤ (a0.size : Int)) = true:=decide_eq_true c6
     clear c6
     by_cases c7 : (a0.extract 0 ((a1.size : Int) : Int).toNat).toList = a1.toList
     ·rw [if_pos c7] at H
      have c7b0 : ((a0.extract 0 ((a1.size : Int) : Int).toNat).toList == a1.toList) = true:=beq_iff_eq.mpr c7
      have c7b1 : ((a0.extract 0 ((a1.size : Int) : Int).toNat).toList != a1.toList) = false:=bne_eq_false_iff_eq.mpr c7
      clear c7
      by_cases c8 : (a1.size : Int) < (a0.size : Int)
      ·rw [if_pos c8] at H
       have c8b0 : decide ((a1.size : Int) < (a0.size : Int)) = true:=decide_eq_true c8
       have c8b1 : decide (a1.size < a0.size) = true:=decide_eq_true (Int.ofNat_lt.mp c8)
       clear c8
       obtain rfl:=Option.some.inj H
       have p9 : 0 ≤ ((a1.size : Int) : Int):=of_decide_eq_true (by first | (with_reducible assumption) | assumption)
       have q9 : (a1.size : Int) < (a0.size : Int):=of_decide_eq_true (by first | (with_reducible assumption) | assumption)
       have hx9:=bt_at a0 (a1.size : Int)
       replace p9:=eq_true p9
       replace q9:=eq_true q9
       (try simp only [Int.toNat_natCast] at *)
       go_enter Tryd.func59,Tryd.ntmps59
       go_wp2
       go_ret
       exact ⟨by first | rfl | (simp; done) | (simp [*]; done) | (simp_all [bt]; done),by repeat (first | exact Drawn0.refl _ | apply Drawn0.step)⟩
      ·rw [if_neg c8] at H
       exact absurd H (by simp)
     ·rw [if_neg c7] at H
      have c7b0 : ((a0.extract 0 ((a1.size : Int) : Int).toNat).toList == a1.toList) = false:=beq_eq_false_iff_ne.mpr c7
      have c7b1 : ((a0.extract 0 ((a1.size : Int) : Int).toNat).toList != a1.toList) = true:=bne_iff_ne.mpr c7
      obtain rfl:=Option.some.inj H
      (try simp only [Int.toNat_natCast] at *)
      go_enter Tryd.func59,Tryd.ntmps59
      go_wp2
      go_ret
      exact ⟨by first | rfl | (simp; done) | (simp [*]; done) | (simp_all [bt]; done),by repeat (first | exact Drawn0.refl _ | apply Drawn0.step)⟩
    ·rw [if_neg c6] at H
     exact absurd H (by simp)
   ·rw [if_neg c5] at H
    exact absurd H (by simp)
  ·rw [if_neg c4] at H
   have c4b0 : decide ((a1.size : Int) < (a0.size : Int)) = false:=decide_eq_false c4
   have c4b1 : decide (a1.size < a0.size) = false:=decide_eq_false (fun h => c4 (Int.ofNat_lt.mpr h))
   clear c4
   obtain rfl:=Option.some.inj H
   (try simp only [Int.toNat_natCast] at *)
   go_enter Tryd.func59,Tryd.ntmps59
   go_wp2
   go_ret
   exact ⟨by first | rfl | (simp; done) | (simp [*]; done) | (simp_all [bt]; done),by repeat (first | exact Drawn0.refl _ | apply Drawn0.step)⟩

/-! ### counterpaneref04_Apart: function 28 -/
def counterpaneref04_Apart.f (a0 : ByteArray) (a1 : ByteArray) : Option (Bool):=(counterpaneref04_Within.f a0 a1).bind fun t201 => (if t201 = true then (some false) else ((counterpaneref04_Within.f a1 a0).bind fun t202 => (some (!t202))))
set_option maxHeartbeats 8000000 in
set_option maxRecDepth 100000 in
theorem counterpaneref04_Apart.calls (a0 : ByteArray) (a1 : ByteArray) (r : Bool) (w : World) (h : counterpaneref04_Apart.f a0 a1 = some r) :
  Calls Tryd.prog 28 #[.string a0,.string a1] w fun e w' => e = .returned (.bool r) ∧ Drawn0 w w':=by
 have H : ((counterpaneref04_Within.f a0 a1).bind fun t201 => (if t201 = true then (some false) else ((counterpaneref04_Within.f a1 a0).bind fun t202 => (some (!t202))))) = some r:=h
 clear h
 replace H:=Option.bind_eq_some_iff.mp H
 obtain ⟨t201,A30,H⟩:=H
 replace H : (if t201 = true then (some false) else ((counterpaneref04_Within.f a1 a0).bind fun t202 => (some (!t202)))) = some r:=H
 have A3:=Aside0.mk A30
 clear A30
 by_cases c4 : t201 = true
 ·subst c4
  have H1 : (some false) = some r:=by rw [if_pos rfl] at H; exact H
  clear H
  have H:=H1
  clear H1
  obtain rfl:=Option.some.inj H
  go_enter Tryd.func28,Tryd.ntmps28
  go_wp2_with (first | ((with_reducible refine gate_callee (f:=59) rfl ?_); refine goesL_ (some 7) rfl rfl Tryd.func59 (by kernel_rfl) rfl #[.string a0,.string a1] rfl (by (try simp only [List.map_toArray,List.map_cons,List.map_nil]); first | done | rfl | (simp only [List.length_drop,List.length_take]; rfl)) ?_; (with_reducible refine (counterpaneref04_Within.calls a0 a1 true _ A3.out).mono ?_); rintro e w' ⟨rfl,⟨nd,rfl⟩⟩; refine ⟨_,rfl,?_⟩))
  go_ret
  exact ⟨by first | rfl | (simp; done) | (simp [*]; done),by repeat (first | exact Drawn0.refl _ | apply Drawn0.step)⟩
 ·replace c4:=Bool.eq_false_iff.mpr c4
  subst c4
  have H1 : ((counterpaneref04_Within.f a1 a0).bind fun t202 => (some (!t202))) = some r:=by rw [if_neg (show ¬ (false = true) by decide)] at H; exact H
  clear H
  have H:=H1
  clear H1
  replace H:=Option.bind_eq_some_iff.mp H
  obtain ⟨t202,A50,H⟩:=H
  replace H : (some (!t202)) = some r:=H
  have A5:=Aside0.mk A50
  clear A50
  obtain rfl:=Option.some.inj H
  go_enter Tryd.func28,Tryd.ntmps28
  go_wp2_with (first | ((with_reducible refine gate_callee (f:=59) rfl ?_); refine goesL_ (some 7) rfl rfl Tryd.func59 (by kernel_rfl) rfl #[.string a0,.string a1] rfl (by (try simp only [List.map_toArray,List.map_cons,List.map_nil]); first | done | rfl | (simp only [List.length_drop,List.length_take]; rfl)) ?_; (with_reducible refine (counterpaneref04_Within.calls a0 a1 false _ A3.out).mono ?_); rintro e w' ⟨rfl,⟨nd,rfl⟩⟩; refine ⟨_,rfl,?_⟩) | (go_at_call 59; (with_reducible refine (counterpaneref04_Within.calls a1 a0 t202 _ A5.out).mono ?_); rintro e w' ⟨rfl,⟨nd,rfl⟩⟩))
  go_ret
  exact ⟨by first | rfl | (simp; done) | (simp [*]; done),by repeat (first | exact Drawn0.refl _ | apply Drawn0.step)⟩

/-! ### counterpaneref04_part: function 96 -/
mutual
def counterpaneref04_part.j0 : Nat → ByteArray → Bool → Option (Bool)
 | 0,_,_ => none
 | k + 1,x0,x20 => if x20 = true then (some false) else (counterpaneref04_part.l0 k x0 0)
def counterpaneref04_part.l0 : Nat → ByteArray → Int → Option (Bool)
 | 0,_,_ => none
 | k + 1,x0,x3 => if x3 < (x0.size : Int) then (if 0 ≤ x3 then (if (bt x0 x3) = 46 then (counterpaneref04_part.l0 k x0 (wrap64 (x3 + 1))) else (if (bt x0 x3) = 95 then (counterpaneref04_part.l0 k x0 (wrap64 (x3 + 1))) else (if (bt x0 x3) = 45 then (counterpaneref04_part.l0 k x0 (wrap64 (x3 + 1))) else (if (bt x0 x3) < 97 then (if (bt x0 x3) < 48 then (some false) else (if (bt x0 x3) > 57 then (some false) else (counterpaneref04_part.l0 k x0 (wrap64 (x3 + 1))))) else (if (bt x0 x3) > 122 then (if (bt x0 x3) < 48 then (some false) else (if (bt x0 x3) > 57 then (some false) else (counterpaneref04_part.l0 k x0 (wrap64 (x3 + 1))))) else (counterpaneref04_part.l0 k x0 (wrap64 (x3 + 1)))))))) else (none)) else (some true)
end
def counterpaneref04_part.f (k : Nat) (a0 : ByteArray) : Option (Bool):=if (a0.size : Int) < 1 then (counterpaneref04_part.j0 k a0 true) else (if (a0.size : Int) > 16 then (counterpaneref04_part.j0 k a0 true) else (if a0.toList = ([46] : List UInt8) then (counterpaneref04_part.j0 k a0 true) else (counterpaneref04_part.j0 k a0 (a0.toList == ([46,46] : List UInt8)))))
theorem counterpaneref04_part.mono_l : ∀ k,(∀ y0 y1,LeO (counterpaneref04_part.j0 k y0 y1) (counterpaneref04_part.j0 (k + 1) y0 y1)) ∧ (∀ y0 y1,LeO (counterpaneref04_part.l0 k y0 y1) (counterpaneref04_part.l0 (k + 1) y0 y1))
 | 0 => ⟨fun _ _ r h => by simp [counterpaneref04_part.j0] at h,fun _ _ r h => by simp [counterpaneref04_part.l0] at h⟩
 | k + 1 => by
  obtain ⟨ih0,ih1⟩:=counterpaneref04_part.mono_l k
  refine ⟨?_,?_⟩
  ·intro y0 y1
   unfold counterpaneref04_part.j0
   repeat' first
   | (with_reducible exact ih0 _ _)
   | (with_reducible exact ih1 _ _)
   | (with_reducible exact LeO.refl _)
   | (with_reducible exact LeO.none _)
   | (with_reducible refine LeO.ite ?_ ?_)
   | (with_reducible refine LeO.bind ?_ (fun _ => ?_))
   | exact ih0 _ _
   | exact ih1 _ _
   | exact LeO.none _
   | refine LeO.ite ?_ ?_
   | refine LeO.bind ?_ (fun _ => ?_)
  ·intro y0 y1
   unfold counterpaneref04_part.l0
   repeat' first
   | (with_reducible exact ih0 _ _)
   | (with_reducible exact ih1 _ _)
   | (with_reducible exact LeO.refl _)
   | (with_reducible exact LeO.none _)
   | (with_reducible refine LeO.ite ?_ ?_)
   | (with_reducible refine LeO.bind ?_ (fun _ => ?_))
   | exact ih0 _ _
   | exact ih1 _ _
   | exact LeO.none _
   | refine LeO.ite ?_ ?_
   | refine LeO.bind ?_ (fun _ => ?_)
theorem counterpaneref04_part.mono : ∀ a0 k,LeO (counterpaneref04_part.f k a0) (counterpaneref04_part.f (k + 1) a0):=by
 intro a0 k
 obtain ⟨ih0,ih1⟩:=counterpaneref04_part.mono_l k
 unfold counterpaneref04_part.f
 repeat' first
   | (with_reducible exact ih0 _ _)
   | (with_reducible exact ih1 _ _)
   | (with_reducible exact LeO.refl _)
   | (with_reducible exact LeO.none _)
   | (with_reducible refine LeO.ite ?_ ?_)
   | (with_reducible refine LeO.bind ?_ (fun _ => ?_))
   | exact ih0 _ _
   | exact ih1 _ _
   | exact LeO.none _
   | refine LeO.ite ?_ ?_
   | refine LeO.bind ?_ (fun _ => ?_)
set_option maxHeartbeats 8000000 in
set_option maxRecDepth 100000 in
theorem counterpaneref04_part.calls (k : Nat) (a0 : ByteArray) (r : Bool) (w : World) (h : counterpaneref04_part.f k a0 = some r) :
  Calls Tryd.prog 96 #[.string a0] w fun e w' => e = .returned (.bool r) ∧ Drawn0 w w':=by
 have H : (if (a0.size : Int) < 1 then (counterpaneref04_part.j0 k a0 true) else (if (a0.size : Int) > 16 then (counterpaneref04_part.j0 k a0 true) else (if a0.toList = ([46] : List UInt8) then (counterpaneref04_part.j0 k a0 true) else (counterpaneref04_part.j0 k a0 (a0.toList == ([46,46] : List UInt8)))))) = some r:=h
 clear h
 have HC2:=Aside0.mk H
 clear H
 go_enter Tryd.func96,Tryd.ntmps96
 go_upto_region 1 with (fail)
 go_cut [20] (fun v20 wc => ∃ (kq : Nat) (x20_1 : Bool),v20 = .bool x20_1 ∧ Aside0 (counterpaneref04_part.j0 kq a0 x20_1 = some r) ∧ Aside0 (kq ≤ k) ∧ Drawn0 w wc)
 case first =>
  have H:=HC2.out
  clear HC2
  by_cases c3 : (a0.size : Int) < 1
  ·rw [if_pos c3] at H
   have c3b0 : decide ((a0.size : Int) < 1) = true:=decide_eq_true c3
   have c3b1 : decide (a0.size < 1) = true:=decide_eq_true (by omega)
   clear c3
   (first | rw [c3b0] | (simp only [i64_w,i32_w]; rw [c3b0]) | skip)
   have H':=Aside0.mk H
   clear H
   go_wp2
   go_meet
   case rel => exact ⟨_,(true),(by first | rfl | (simp; done) | (simp [*]; done)),H',⟨by first | omega | exact Nat.le_refl _⟩,by repeat (first | exact Drawn0.refl _ | apply Drawn0.step)⟩
  ·rw [if_neg c3] at H
   have c3b0 : decide ((a0.size : Int) < 1) = false:=decide_eq_false c3
   have c3b1 : decide (a0.size < 1) = false:=decide_eq_false (by omega)
   clear c3
   (first | rw [c3b0] | (simp only [i64_w,i32_w]; rw [c3b0]) | skip)
   by_cases c4 : (a0.size : Int) > 16
   ·rw [if_pos c4] at H
    have c4b0 : decide (16 < (a0.size : Int)) = true:=decide_eq_true c4
    have c4b1 : decide (16 < a0.size) = true:=decide_eq_true (by omega)
    clear c4
    have H':=Aside0.mk H
    clear H
    go_wp2
    go_meet
    case rel => exact ⟨_,(true),(by first | rfl | (simp; done) | (simp [*]; done)),H',⟨by first | omega | exact Nat.le_refl _⟩,by repeat (first | exact Drawn0.refl _ | apply Drawn0.step)⟩
   ·rw [if_neg c4] at H
    have c4b0 : decide (16 < (a0.size : Int)) = false:=decide_eq_false c4
    have c4b1 : decide (16 < a0.size) = false:=decide_eq_false (by omega)
    clear c4
    by_cases c5 : a0.toList = ([46] : List UInt8)
    ·rw [if_pos c5] at H
     have c5b0 : (a0.toList == ([46] : List UInt8)) = true:=beq_iff_eq.mpr c5
     have c5b1 : (a0.toList != ([46] : List UInt8)) = false:=bne_eq_false_iff_eq.mpr c5
     clear c5
     have H':=Aside0.mk H
     clear H
     go_wp2
     go_meet
     case rel => exact ⟨_,(true),(by first | rfl | (simp; done) | (simp [*]; done)),H',⟨by first | omega | exact Nat.le_refl _⟩,by repeat (first | exact Drawn0.refl _ | apply Drawn0.step)⟩
    ·rw [if_neg c5] at H
     have c5b0 : (a0.toList == ([46] : List UInt8)) = false:=beq_eq_false_iff_ne.mpr c5
     have c5b1 : (a0.toList != ([46] : List UInt8)) = true:=bne_iff_ne.mpr c5
     have H':=Aside0.mk H
     clear H
     go_wp2
     go_meet
     case rel => exact ⟨_,((a0.toList == ([46,46] : List UInt8))),(by first | rfl | (simp; done) | (simp [*]; done)),H',⟨by first | omega | exact Nat.le_refl _⟩,by repeat (first | exact Drawn0.refl _ | apply Drawn0.step)⟩
 case rest =>
  clear HC2
  try clear p2
  try clear c3
  try clear c3b0
  try clear c3b1
  try clear c4
  try clear c4b0
  try clear c4b1
  try clear c5
  try clear c5b0
  try clear c5b1
  obtain ⟨kq,x20_1,rfl,HA,HJ1,⟨mc1,rfl⟩⟩:=hcut
  cases kq with
  | zero => exact absurd HA.out (by simp [counterpaneref04_part.j0])
  | succ kj1 =>
   have H:=HA.out
   clear HA
   simp only [counterpaneref04_part.j0] at H
   by_cases c6 : x20_1 = true
   ·subst c6
    have H1 : (some false) = some r:=by rw [if_pos rfl] at H; exact H
    clear H
    have H:=H1
    clear H1
    obtain rfl:=Option.some.inj H
    go_wp2
    go_ret
    exact ⟨by first | rfl | (simp; done) | (simp [*]; done),by repeat (first | exact Drawn0.refl _ | apply Drawn0.step)⟩
   ·replace c6:=Bool.eq_false_iff.mpr c6
    subst c6
    have H1 : (counterpaneref04_part.l0 kj1 a0 0) = some r:=by rw [if_neg (show ¬ (false = true) by decide)] at H; exact H
    clear H
    have H:=H1
    clear H1
    have H':=Aside0.mk H
    clear H
    go_wp2
    go_loopg [3] kj1 (fun kq v3 w' => ∃ (x3_2 : Int),v3 = .int .i64 x3_2 ∧ Aside0 (counterpaneref04_part.l0 kq a0 x3_2 = some r) ∧ Aside0 (kq ≤ kj1) ∧ Drawn0 w w')
    case atStart => exact ⟨(0),(by first | rfl | (simp; done) | (simp [*]; done)),H',⟨Nat.le_refl _⟩,by repeat (first | exact Drawn0.refl _ | apply Drawn0.step)⟩
    case round =>
     clear H'
     try clear c1
     try clear p2
     try clear c3
     try clear c3b0
     try clear c3b1
     try clear c4
     try clear c4b0
     try clear c4b1
     try clear c5
     try clear c5b0
     try clear c5b1
     try clear c6
     try clear p2
     obtain ⟨x3_2,rfl,HA,HK2,⟨m2,rfl⟩⟩:=hrel
     cases gk with
     | zero => exact absurd HA.out (by simp [counterpaneref04_part.l0])
     | succ k2 =>
      have H:=HA.out
      clear HA
      simp only [counterpaneref04_part.l0] at H
      by_cases c7 : x3_2 < (a0.size : Int)
      ·rw [if_pos c7] at H
       have c7b0 : decide (x3_2 < (a0.size : Int)) = true:=decide_eq_true c7
       clear c7
       by_cases c8 : 0 ≤ x3_2
       ·rw [if_pos c8] at H
        have c8b0 : decide (0 ≤ x3_2) = true:=decide_eq_true c8
        clear c8
        by_cases c10 : (bt a0 x3_2) = 46
        ·rw [if_pos c10] at H
         have c10b0 : ((bt a0 x3_2) == 46) = true:=beq_iff_eq.mpr c10
         have c10b1 : ((bt a0 x3_2) != 46) = false:=bne_eq_false_iff_eq.mpr c10
         clear c10
         have H':=Aside0.mk H
         clear H
         have p9 : 0 ≤ (x3_2 : Int):=of_decide_eq_true (by first | (with_reducible assumption) | assumption)
         have q9 : x3_2 < (a0.size : Int):=of_decide_eq_true (by first | (with_reducible assumption) | assumption)
         have hx9:=bt_at a0 x3_2
         replace p9:=eq_true p9
         replace q9:=eq_true q9
         go_wp2
         go_roundg k2
         case measure => have:=HJ1.out; have:=HK2.out; omega
         case rel => exact ⟨(wrap64 (x3_2 + 1)),(by first | rfl | (simp; done) | (simp [*]; done)),H',⟨by have:=HJ1.out; have:=HK2.out; omega⟩,by repeat (first | exact Drawn0.refl _ | apply Drawn0.step)⟩
        ·rw [if_neg c10] at H
         have c10b0 : ((bt a0 x3_2) == 46) = false:=beq_eq_false_iff_ne.mpr c10
         have c10b1 : ((bt a0 x3_2) != 46) = true:=bne_iff_ne.mpr c10
         by_cases c11 : (bt a0 x3_2) = 95
         ·rw [if_pos c11] at H
          have c11b0 : ((bt a0 x3_2) == 95) = true:=beq_iff_eq.mpr c11
          have c11b1 : ((bt a0 x3_2) != 95) = false:=bne_eq_false_iff_eq.mpr c11
          clear c11
          have H':=Aside0.mk H
          clear H
          have p9 : 0 ≤ (x3_2 : Int):=of_decide_eq_true (by first | (with_reducible assumption) | assumption)
          have q9 : x3_2 < (a0.size : Int):=of_decide_eq_true (by first | (with_reducible assumption) | assumption)
          have hx9:=bt_at a0 x3_2
          replace p9:=eq_true p9
          replace q9:=eq_true q9
          go_wp2
          go_roundg k2
          case measure => have:=HJ1.out; have:=HK2.out; omega
          case rel => exact ⟨(wrap64 (x3_2 + 1)),(by first | rfl | (simp; done) | (simp [*]; done)),H',⟨by have:=HJ1.out; have:=HK2.out; omega⟩,by repeat (first | exact Drawn0.refl _ | apply Drawn0.step)⟩
         ·rw [if_neg c11] at H
          have c11b0 : ((bt a0 x3_2) == 95) = false:=beq_eq_false_iff_ne.mpr c11
          have c11b1 : ((bt a0 x3_2) != 95) = true:=bne_iff_ne.mpr c11
          by_cases c12 : (bt a0 x3_2) = 45
          ·rw [if_pos c12] at H
           have c12b0 : ((bt a0 x3_2) == 45) = true:=beq_iff_eq.mpr c12
           have c12b1 : ((bt a0 x3_2) != 45) = false:=bne_eq_false_iff_eq.mpr c12
           clear c12
           have H':=Aside0.mk H
           clear H
           have p9 : 0 ≤ (x3_2 : Int):=of_decide_eq_true (by first | (with_reducible assumption) | assumption)
           have q9 : x3_2 < (a0.size : Int):=of_decide_eq_true (by first | (with_reducible assumption) | assumption)
           have hx9:=bt_at a0 x3_2
           replace p9:=eq_true p9
           replace q9:=eq_true q9
           go_wp2
           go_roundg k2
           case measure => have:=HJ1.out; have:=HK2.out; omega
           case rel => exact ⟨(wrap64 (x3_2 + 1)),(by first | rfl | (simp; done) | (simp [*]; done)),H',⟨by have:=HJ1.out; have:=HK2.out; omega⟩,by repeat (first | exact Drawn0.refl _ | apply Drawn0.step)⟩
          ·rw [if_neg c12] at H
           have c12b0 : ((bt a0 x3_2) == 45) = false:=beq_eq_false_iff_ne.mpr c12
           have c12b1 : ((bt a0 x3_2) != 45) = true:=bne_iff_ne.mpr c12
           by_cases c13 : (bt a0 x3_2) < 97
           ·rw [if_pos c13] at H
            have c13b0 : decide ((bt a0 x3_2) < 97) = true:=decide_eq_true c13
            clear c13
            by_cases c14 : (bt a0 x3_2) < 48
            ·rw [if_pos c14] at H
             have c14b0 : decide ((bt a0 x3_2) < 48) = true:=decide_eq_true c14
             clear c14
             obtain rfl:=Option.some.inj H
             have p9 : 0 ≤ (x3_2 : Int):=of_decide_eq_true (by first | (with_reducible assumption) | assumption)
             have q9 : x3_2 < (a0.size : Int):=of_decide_eq_true (by first | (with_reducible assumption) | assumption)
             have hx9:=bt_at a0 x3_2
             replace p9:=eq_true p9
             replace q9:=eq_true q9
             go_wp2
             go_ret
             exact ⟨by first | rfl | (simp; done) | (simp [*]; done),by repeat (first | exact Drawn0.refl _ | apply Drawn0.step)⟩
            ·rw [if_neg c14] at H
             have c14b0 : decide ((bt a0 x3_2) < 48) = false:=decide_eq_false c14
             clear c14
             by_cases c15 : (bt a0 x3_2) > 57
             ·rw [if_pos c15] at H
              have c15b0 : decide (57 < (bt a0 x3_2)) = true:=decide_eq_true c15
              clear c15
              obtain rfl:=Option.some.inj H
              have p9 : 0 ≤ (x3_2 : Int):=of_decide_eq_true (by first | (with_reducible assumption) | assumption)
              have q9 : x3_2 < (a0.size : Int):=of_decide_eq_true (by first | (with_reducible assumption) | assumption)
              have hx9:=bt_at a0 x3_2
              replace p9:=eq_true p9
              replace q9:=eq_true q9
              go_wp2
              go_ret
              exact ⟨by first | rfl | (simp; done) | (simp [*]; done),by repeat (first | exact Drawn0.refl _ | apply Drawn0.step)⟩
             ·rw [if_neg c15] at H
              have c15b0 : decide (57 < (bt a0 x3_2)) = false:=decide_eq_false c15
              clear c15
              have H':=Aside0.mk H
              clear H
              have p9 : 0 ≤ (x3_2 : Int):=of_decide_eq_true (by first | (with_reducible assumption) | assumption)
              have q9 : x3_2 < (a0.size : Int):=of_decide_eq_true (by first | (with_reducible assumption) | assumption)
              have hx9:=bt_at a0 x3_2
              replace p9:=eq_true p9
              replace q9:=eq_true q9
              go_wp2
              go_roundg k2
              case measure => have:=HJ1.out; have:=HK2.out; omega
              case rel => exact ⟨(wrap64 (x3_2 + 1)),(by first | rfl | (simp; done) | (simp [*]; done)),H',⟨by have:=HJ1.out; have:=HK2.out; omega⟩,by repeat (first | exact Drawn0.refl _ | apply Drawn0.step)⟩
           ·rw [if_neg c13] at H
            have c13b0 : decide ((bt a0 x3_2) < 97) = false:=decide_eq_false c13
            clear c13
            by_cases c16 : (bt a0 x3_2) > 122
            ·rw [if_pos c16] at H
             have c16b0 : decide (122 < (bt a0 x3_2)) = true:=decide_eq_true c16
             clear c16
             by_cases c17 : (bt a0 x3_2) < 48
             ·rw [if_pos c17] at H
              have c17b0 : decide ((bt a0 x3_2) < 48) = true:=decide_eq_true c17
              clear c17
              obtain rfl:=Option.some.inj H
              have p9 : 0 ≤ (x3_2 : Int):=of_decide_eq_true (by first | (with_reducible assumption) | assumption)
              have q9 : x3_2 < (a0.size : Int):=of_decide_eq_true (by first | (with_reducible assumption) | assumption)
              have hx9:=bt_at a0 x3_2
              replace p9:=eq_true p9
              replace q9:=eq_true q9
              go_wp2
              go_ret
              exact ⟨by first | rfl | (simp; done) | (simp [*]; done),by repeat (first | exact Drawn0.refl _ | apply Drawn0.step)⟩
             ·rw [if_neg c17] at H
              have c17b0 : decide ((bt a0 x3_2) < 48) = false:=decide_eq_false c17
              clear c17
              by_cases c18 : (bt a0 x3_2) > 57
              ·rw [if_pos c18] at H
               have c18b0 : decide (57 < (bt a0 x3_2)) = true:=decide_eq_true c18
               clear c18
               obtain rfl:=Option.some.inj H
               have p9 : 0 ≤ (x3_2 : Int):=of_decide_eq_true (by first | (with_reducible assumption) | assumption)
               have q9 : x3_2 < (a0.size : Int):=of_decide_eq_true (by first | (with_reducible assumption) | assumption)
               have hx9:=bt_at a0 x3_2
               replace p9:=eq_true p9
               replace q9:=eq_true q9
               go_wp2
               go_ret
               exact ⟨by first | rfl | (simp; done) | (simp [*]; done),by repeat (first | exact Drawn0.refl _ | apply Drawn0.step)⟩
              ·rw [if_neg c18] at H
               have c18b0 : decide (57 < (bt a0 x3_2)) = false:=decide_eq_false c18
               clear c18
               have H':=Aside0.mk H
               clear H
               have p9 : 0 ≤ (x3_2 : Int):=of_decide_eq_true (by first | (with_reducible assumption) | assumption)
               have q9 : x3_2 < (a0.size : Int):=of_decide_eq_true (by first | (with_reducible assumption) | assumption)
               have hx9:=bt_at a0 x3_2
               replace p9:=eq_true p9
               replace q9:=eq_true q9
               go_wp2
               go_roundg k2
               case measure => have:=HJ1.out; have:=HK2.out; omega
               case rel => exact ⟨(wrap64 (x3_2 + 1)),(by first | rfl | (simp; done) | (simp [*]; done)),H',⟨by have:=HJ1.out; have:=HK2.out; omega⟩,by repeat (first | exact Drawn0.refl _ | apply Drawn0.step)⟩
            ·rw [if_neg c16] at H
             have c16b0 : decide (122 < (bt a0 x3_2)) = false:=decide_eq_false c16
             clear c16
             have H':=Aside0.mk H
             clear H
             have p9 : 0 ≤ (x3_2 : Int):=of_decide_eq_true (by first | (with_reducible assumption) | assumption)
             have q9 : x3_2 < (a0.size : Int):=of_decide_eq_true (by first | (with_reducible assumption) | assumption)
             have hx9:=bt_at a0 x3_2
             replace p9:=eq_true p9
             replace q9:=eq_true q9
             go_wp2
             go_roundg k2
             case measure => have:=HJ1.out; have:=HK2.out; omega
             case rel => exact ⟨(wrap64 (x3_2 + 1)),(by first | rfl | (simp; done) | (simp [*]; done)),H',⟨by have:=HJ1.out; have:=HK2.out; omega⟩,by repeat (first | exact Drawn0.refl _ | apply Drawn0.step)⟩
       ·rw [if_neg c8] at H
        exact absurd H (by simp)
      ·rw [if_neg c7] at H
       have c7b0 : decide (x3_2 < (a0.size : Int)) = false:=decide_eq_false c7
       clear c7
       obtain rfl:=Option.some.inj H
       go_wp2
       go_ret
       exact ⟨by first | rfl | (simp; done) | (simp [*]; done),by repeat (first | exact Drawn0.refl _ | apply Drawn0.step)⟩

end Go.Proofs.YthhohbidjhcjeaaDoor.Q
namespace Go.Proofs.YthhohbidjhcjeaaDoor.H
open Go.RowKit Go.Proofs.YthhohbidjhcjeaaDoorW.PrintWords Go.Proofs.YthhohbidjhcjeaaDoorW.PrintLast Go.Proofs.YthhohbidjhcjeaaDoorW.PrintMore
open Go.Proofs.YthhohbidjhcjeaaDoor.Q

/-- A patch's cells, its lists as values. -/
abbrev cs (x : S24) (A5 : Option Addr) (c5 : Nat) (A6 : Option Addr) (c6 : Nat) : Array Value:=#[.int .i64 x.f0,.string x.f1,.string x.f2,.string x.f3,.int .i64 x.f4,.slice A5 x.f5.length c5,.slice A6 x.f6.length c6]
end Go.Proofs.YthhohbidjhcjeaaDoor.H

namespace Go.Proofs.YthhohbidjhcjeaaDoor.H
open Go.RowKit Go.Proofs.YthhohbidjhcjeaaDoorW.PrintWords Go.Proofs.YthhohbidjhcjeaaDoorW.PrintLast Go.Proofs.YthhohbidjhcjeaaDoorW.PrintMore
open Go.Proofs.YthhohbidjhcjeaaDoor.Q Go.Proofs.YthhohbidjhcjeaaDoor.Pl

set_option maxHeartbeats 2000000 in
set_option maxRecDepth 100000 in
theorem beside_calls (p q : S24) (A5 : Option Addr) (c5 : Nat) (A6 : Option Addr) (c6 : Nat) (B5 : Option Addr) (d5 : Nat) (B6 : Option Addr) (d6 : Nat) (gp gq : Nat) (w : World)
  (hp : w.heap[gp]? = some (.cells #[.int .i64 p.f0,.string p.f1,.string p.f2,.string p.f3,.int .i64 p.f4,.slice A5 p.f5.length c5,.slice A6 p.f6.length c6] 24 (0,0))) (hq : w.heap[gq]? = some (.cells #[.int .i64 q.f0,.string q.f1,.string q.f2,.string q.f3,.int .i64 q.f4,.slice B5 q.f5.length d5,.slice B6 q.f6.length d6] 24 (0,0))) :
  Calls Tryd.prog 85 #[.pointer (some ⟨gp,0,none⟩),.pointer (some ⟨gq,0,none⟩)] w fun e w' => e = .returned (.bool (p.f1.toList != q.f1.toList)) ∧ Below w.heap.size w w':=by
 have pc0 : w.cell? ⟨gp,0,none⟩ = some (.int .i64 p.f0):=(blk_cell hp 0).trans rfl
 have pf0:=blk_frozen hp 0
 have pc1 : w.cell? ⟨gp,1,none⟩ = some (.string p.f1):=(blk_cell hp 1).trans rfl
 have pf1:=blk_frozen hp 1
 have pc2 : w.cell? ⟨gp,2,none⟩ = some (.string p.f2):=(blk_cell hp 2).trans rfl
 have pf2:=blk_frozen hp 2
 have pc3 : w.cell? ⟨gp,3,none⟩ = some (.string p.f3):=(blk_cell hp 3).trans rfl
 have pf3:=blk_frozen hp 3
 have pc4 : w.cell? ⟨gp,4,none⟩ = some (.int .i64 p.f4):=(blk_cell hp 4).trans rfl
 have pf4:=blk_frozen hp 4
 have pc5 : w.cell? ⟨gp,5,none⟩ = some (.slice A5 p.f5.length c5):=(blk_cell hp 5).trans rfl
 have pf5:=blk_frozen hp 5
 have pc6 : w.cell? ⟨gp,6,none⟩ = some (.slice A6 p.f6.length c6):=(blk_cell hp 6).trans rfl
 have pf6:=blk_frozen hp 6
 have qc0 : w.cell? ⟨gq,0,none⟩ = some (.int .i64 q.f0):=(blk_cell hq 0).trans rfl
 have qf0:=blk_frozen hq 0
 have qc1 : w.cell? ⟨gq,1,none⟩ = some (.string q.f1):=(blk_cell hq 1).trans rfl
 have qf1:=blk_frozen hq 1
 have qc2 : w.cell? ⟨gq,2,none⟩ = some (.string q.f2):=(blk_cell hq 2).trans rfl
 have qf2:=blk_frozen hq 2
 have qc3 : w.cell? ⟨gq,3,none⟩ = some (.string q.f3):=(blk_cell hq 3).trans rfl
 have qf3:=blk_frozen hq 3
 have qc4 : w.cell? ⟨gq,4,none⟩ = some (.int .i64 q.f4):=(blk_cell hq 4).trans rfl
 have qf4:=blk_frozen hq 4
 have qc5 : w.cell? ⟨gq,5,none⟩ = some (.slice B5 q.f5.length d5):=(blk_cell hq 5).trans rfl
 have qf5:=blk_frozen hq 5
 have qc6 : w.cell? ⟨gq,6,none⟩ = some (.slice B6 q.f6.length d6):=(blk_cell hq 6).trans rfl
 have qf6:=blk_frozen hq 6
 go_enter Tryd.func85,Tryd.ntmps85
 go_wp2
 all_goals go_region
 all_goals go_wp2
 all_goals go_ret
 all_goals exact ⟨rfl,by repeat (first | exact Below.refl _ _ | refine Below.drew ?_)⟩
/-- A block of texts, read as a row. -/
theorem texts_read {W : World} {g : Nat} {l : List ByteArray} (h : W.heap[g]? = some (.cells (l.map Value.string).toArray 9 (0,0))) (hl : l.length ≤ 9223372036854775807) : Kd.C Kd.string W (some ⟨g,0,none⟩) l.length l:=by
 refine ⟨rfl,hl,fun _ => ⟨_,rfl,fun j x hj => ⟨[.string x],rfl,rfl,fun i u hu => ?_⟩⟩⟩
 cases i with
 | zero =>
  obtain rfl : Value.string x = u:=by simpa using hu
  have hc:=blk_cell h j
  have e : (⟨g,0,none⟩ : Addr).add (j * 1 + 0) = ⟨g,j,none⟩:=by simp [Addr.add]; omega
  show W.cell? ((⟨g,0,none⟩ : Addr).add (j * 1 + 0)) = _
  rw [e,hc]
  simp [hj]
 | succ i => simp at hu
/-- The paths of a patch. -/
def pathsS (x : S24) : List ByteArray:=if x.f0 = 10 then [x.f1,x.f2] else [x.f1]
set_option maxHeartbeats 2000000 in
set_option maxRecDepth 100000 in
theorem paths_calls (p : S24) (A5 : Option Addr) (c5 : Nat) (A6 : Option Addr) (c6 : Nat) (gp : Nat) (w : World) (hp : w.heap[gp]? = some (.cells #[.int .i64 p.f0,.string p.f1,.string p.f2,.string p.f3,.int .i64 p.f4,.slice A5 p.f5.length c5,.slice A6 p.f6.length c6] 24 (0,0))) :
  Calls Tryd.prog 107 #[.pointer (some ⟨gp,0,none⟩)] w fun e w' => ∃ A c,e = .returned (.slice A (pathsS p).length c) ∧ (pathsS p).length ≤ c ∧ Kd.C Kd.string w' A (pathsS p).length (pathsS p) ∧ Below w.heap.size w w':=by
 have pc0 : w.cell? ⟨gp,0,none⟩ = some (.int .i64 p.f0):=(blk_cell hp 0).trans rfl
 have pf0:=blk_frozen hp 0
 have pc1 : w.cell? ⟨gp,1,none⟩ = some (.string p.f1):=(blk_cell hp 1).trans rfl
 have pf1:=blk_frozen hp 1
 have pc2 : w.cell? ⟨gp,2,none⟩ = some (.string p.f2):=(blk_cell hp 2).trans rfl
 have pf2:=blk_frozen hp 2
 have pc3 : w.cell? ⟨gp,3,none⟩ = some (.string p.f3):=(blk_cell hp 3).trans rfl
 have pf3:=blk_frozen hp 3
 have pc4 : w.cell? ⟨gp,4,none⟩ = some (.int .i64 p.f4):=(blk_cell hp 4).trans rfl
 have pf4:=blk_frozen hp 4
 have pc5 : w.cell? ⟨gp,5,none⟩ = some (.slice A5 p.f5.length c5):=(blk_cell hp 5).trans rfl
 have pf5:=blk_frozen hp 5
 have pc6 : w.cell? ⟨gp,6,none⟩ = some (.slice A6 p.f6.length c6):=(blk_cell hp 6).trans rfl
 have pf6:=blk_frozen hp 6
 unfold pathsS
 by_cases h : p.f0 = 10
 ·have hb : (p.f0 == 10) = true:=by simpa using h
  rw [if_pos h]
  clear h
  go_enter Tryd.func107,Tryd.ntmps107
  go_wp2
  all_goals go_region
  all_goals go_wp2
  all_goals go_ret
  all_goals exact ⟨_,_,rfl,Nat.le_refl _,texts_read (l:=[p.f1,p.f2]) (World.alloc_heap_new w _) (by simp),((Below.refl _ w).alloc (Nat.le_refl _) _).drew⟩
 ·have hb : (p.f0 == 10) = false:=by simpa using h
  rw [if_neg h]
  clear h
  go_enter Tryd.func107,Tryd.ntmps107
  go_wp2
  go_ret
  exact ⟨_,_,rfl,Nat.le_refl _,texts_read (l:=[p.f1]) (World.alloc_heap_new w _) (by simp),(Below.refl _ w).alloc (Nat.le_refl _) _⟩
/-- Does no path of one lie in a path of the other? -/
def apartL (a b : List ByteArray) : Bool:=a.all (fun x => b.all (fun y => apartB x y))
theorem apart_l1 (a b : List ByteArray) (ha : a.length ≤ 140737488355328) (hb : b.length ≤ 140737488355328) (i : Nat) (hi : i < a.length) (r : Bool) (hr : Ev (fun k => commute_apart.l0 k b a (a.length : Int) ((i + 1 : Nat) : Int)) r) :
  ∀ (d j : Nat),j + d = b.length → Ev (fun k => commute_apart.l1 k b a[i] a (a.length : Int) (i : Int) b (b.length : Int) (j : Int)) ((b.drop j).all (fun y => apartB a[i] y) && r):=by
 intro d
 induction d with
 | zero =>
  intro j hj
  rw [List.drop_of_length_le (by omega)]
  refine Ev.step (f:=fun k => commute_apart.l0 k b a (a.length : Int) ((i + 1 : Nat) : Int)) (fun k => ?_) (by simpa using hr)
  simp only [commute_apart.l1]
  rw [if_neg (by omega),wrap_1 hi ha]
 | succ d ih =>
  intro j hj
  have h1 : j < b.length:=by omega
  have key:=ih (j + 1) (by omega)
  rw [List.drop_eq_getElem_cons h1,List.all_cons]
  cases hx : apartB a[i] b[j] with
  | true =>
   rw [Bool.true_and]
   refine Ev.step (fun k => ?_) key
   simp only [commute_apart.l1]
   rw [if_pos (by omega),if_pos (by omega),if_pos (by omega),rdOf_get _ _ h1,apart_f,hx,Option.bind_some,if_pos rfl,wrap_1 h1 hb]
  | false =>
   rw [Bool.false_and,Bool.false_and]
   refine Ev.step (f:=fun _ => some false) (fun k => ?_) (Ev.now _)
   simp only [commute_apart.l1]
   rw [if_pos (by omega),if_pos (by omega),if_pos (by omega),rdOf_get _ _ h1,apart_f,hx,Option.bind_some,if_neg (by simp)]
theorem apart_l0 (a b : List ByteArray) (ha : a.length ≤ 140737488355328) (hb : b.length ≤ 140737488355328) : ∀ (d i : Nat),i + d = a.length → Ev (fun k => commute_apart.l0 k b a (a.length : Int) (i : Int)) (apartL (a.drop i) b):=by
 intro d
 induction d with
 | zero =>
  intro i hi
  rw [List.drop_of_length_le (by omega)]
  refine Ev.step (f:=fun _ => some true) (fun k => ?_) (Ev.now _)
  simp only [commute_apart.l0]
  rw [if_neg (by omega)]
 | succ d ih =>
  intro i hi
  have h1 : i < a.length:=by omega
  have key:=apart_l1 a b ha hb i h1 _ (ih (i + 1) (by omega)) b.length 0 (by omega)
  rw [List.drop_zero] at key
  rw [List.drop_eq_getElem_cons h1,apartL,List.all_cons]
  refine Ev.step (fun k => ?_) key
  simp only [commute_apart.l0]
  rw [if_pos (by omega),if_pos (by omega),if_pos (by omega),rdOf_get _ _ h1]
  rfl
theorem apart_list (a b : List ByteArray) (ha : a.length ≤ 140737488355328) (hb : b.length ≤ 140737488355328) : Ev (fun k => commute_apart.f k a b) (apartL a b):=by
 have h:=apart_l0 a b ha hb a.length 0 (by omega)
 rw [List.drop_zero] at h
 exact h
theorem paths_len (x : S24) : (pathsS x).length ≤ 140737488355328:=by
 unfold pathsS
 split <;> simp
set_option maxHeartbeats 2000000 in
set_option maxRecDepth 100000 in
theorem still_calls (p q : S24) (A5 : Option Addr) (c5 : Nat) (A6 : Option Addr) (c6 : Nat) (B5 : Option Addr) (d5 : Nat) (B6 : Option Addr) (d6 : Nat) (gp gq : Nat) (w : World)
  (hp : w.heap[gp]? = some (.cells #[.int .i64 p.f0,.string p.f1,.string p.f2,.string p.f3,.int .i64 p.f4,.slice A5 p.f5.length c5,.slice A6 p.f6.length c6] 24 (0,0))) (hq : w.heap[gq]? = some (.cells #[.int .i64 q.f0,.string q.f1,.string q.f2,.string q.f3,.int .i64 q.f4,.slice B5 q.f5.length d5,.slice B6 q.f6.length d6] 24 (0,0))) :
  Calls Tryd.prog 84 #[.pointer (some ⟨gp,0,none⟩),.pointer (some ⟨gq,0,none⟩)] w fun e w' => e = .returned (.bool (apartL (pathsS p) (pathsS q))) ∧ Below w.heap.size w w':=by
 obtain ⟨k,hk⟩:=(apart_list (pathsS p) (pathsS q) (paths_len p) (paths_len q)).rounds
 go_enter Tryd.func84,Tryd.ntmps84
 go_wp2_with (fail)
 refine (paths_calls p A5 c5 A6 c6 gp w hp).mono ?_
 rintro e w1 ⟨X,cx,rfl,lx,hX,hb1⟩
 go_wp2_with (fail)
 refine (paths_calls q B5 d5 B6 d6 gq w1 ((hb1.block _ (Array.getElem?_eq_some_iff.1 hq).1).trans hq)).mono ?_
 rintro e w2 ⟨Y,cy,rfl,ly,hY,hb2⟩
 go_wp2_with (fail)
 refine (commute_apart.calls k X cx _ Y cy _ _ w2 (Kd.C_below hX hb2) lx hY ly hk).mono ?_
 rintro e w3 ⟨rfl,m,rfl⟩
 go_wp2
 go_ret
 exact ⟨rfl,pw_below_drewN (hb1.trans (hb2.mono hb1.size)) m⟩
/-- What a rule leaves: the two boxes hold what it says, all else that lay lies as it lay. -/
structure Left2 (w : World) (gp gq : Nat) (cp cq : Array Value) (w' : World) : Prop where
 p : w'.heap[gp]? = some (.cells cp 24 (0,0))
 q : w'.heap[gq]? = some (.cells cq 24 (0,0))
 size : w.heap.size ≤ w'.heap.size
 other : ∀ k,k < w.heap.size → k ≠ gp → k ≠ gq → w'.heap[k]? = w.heap[k]?
 below : ∀ (B : Nat) (w0 : World),Below B w0 w → B ≤ gp → B ≤ gq → Below B w0 w'
theorem Left2.of_below {w w' : World} {gp gq : Nat} {cp cq : Array Value} (hp : w.heap[gp]? = some (.cells cp 24 (0,0))) (hq : w.heap[gq]? = some (.cells cq 24 (0,0))) (h : Below w.heap.size w w') : Left2 w gp gq cp cq w' :=
 ⟨(h.block _ (Array.getElem?_eq_some_iff.1 hp).1).trans hp,(h.block _ (Array.getElem?_eq_some_iff.1 hq).1).trans hq,h.size,fun k hk _ _ => h.block k hk,fun B w0 hb h1 _ => hb.trans (h.mono (by have:=(Array.getElem?_eq_some_iff.1 hp).1; omega))⟩
/-- One field of the first box is written. -/
theorem Left2.set_p {w : World} {gp gq i : Nat} {cp cq : Array Value} {v : Value} (hne : gp ≠ gq) (hp : w.heap[gp]? = some (.cells cp 24 (0,0))) (hq : w.heap[gq]? = some (.cells cq 24 (0,0))) : Left2 w gp gq (cp.setIfInBounds i v) cq (w.setCell ⟨gp,i,none⟩ v) :=
 ⟨blk_set hp i v,blk_far hq (Ne.symm hne) v,by simp,fun k _ h1 _ => Below.heap_setCell w _ v k h1,fun _ _ hb h1 _ => Below.setCell (p:=⟨gp,i,none⟩) hb h1 _⟩
theorem Left2.set_q {w : World} {gp gq i : Nat} {cp cq : Array Value} {v : Value} (hne : gp ≠ gq) (hp : w.heap[gp]? = some (.cells cp 24 (0,0))) (hq : w.heap[gq]? = some (.cells cq 24 (0,0))) : Left2 w gp gq cp (cq.setIfInBounds i v) (w.setCell ⟨gq,i,none⟩ v) :=
 ⟨blk_far hp hne v,blk_set hq i v,by simp,fun k _ _ h1 => Below.heap_setCell w _ v k h1,fun _ _ hb _ h1 => Below.setCell (p:=⟨gq,i,none⟩) hb h1 _⟩
theorem Left2.trans {w w1 w2 : World} {gp gq : Nat} {cp cq cp' cq' : Array Value} (h : Left2 w gp gq cp cq w1) (k : Left2 w1 gp gq cp' cq' w2) : Left2 w gp gq cp' cq' w2 :=
 ⟨k.p,k.q,Nat.le_trans h.size k.size,fun j hj h1 h2 => (k.other j (Nat.lt_of_lt_of_le hj h.size) h1 h2).trans (h.other j hj h1 h2),fun B w0 hb h1 h2 => k.below B w0 (h.below B w0 hb h1 h2) h1 h2⟩
theorem Left2.drew {w w' : World} {gp gq : Nat} {cp cq : Array Value} (h : Left2 w gp gq cp cq w') : Left2 w gp gq cp cq w'.drew:=⟨h.p,h.q,h.size,h.other,fun B w0 a b c => (h.below B w0 a b c).drew⟩
/-- Two changes: what the program's rule makes of them. -/
def bothS (p q : S24) : S24 × S24 × Bool :=
 if p.f1.toList = q.f1.toList then
  if p.f0 = 7 ∧ q.f0 = 7 then
   if wrap64 (q.f4 - (p.f6.length : Int)) > p.f4 then (p,{ q with f4:=wrap64 (q.f4 + wrap64 ((p.f5.length : Int) - (p.f6.length : Int))) },true)
   else if wrap64 (p.f4 - (q.f5.length : Int)) > q.f4 then ({ p with f4:=wrap64 (p.f4 + wrap64 ((q.f6.length : Int) - (q.f5.length : Int))) },q,true)
   else (p,q,false)
  else (p,q,false)
 else (p,q,true)
set_option maxHeartbeats 4000000 in
set_option maxRecDepth 100000 in
theorem both_calls (p q : S24) (A5 : Option Addr) (c5 : Nat) (A6 : Option Addr) (c6 : Nat) (B5 : Option Addr) (d5 : Nat) (B6 : Option Addr) (d6 : Nat) (gp gq : Nat) (hne : gp ≠ gq) (w : World)
  (hp : w.heap[gp]? = some (.cells #[.int .i64 p.f0,.string p.f1,.string p.f2,.string p.f3,.int .i64 p.f4,.slice A5 p.f5.length c5,.slice A6 p.f6.length c6] 24 (0,0))) (hq : w.heap[gq]? = some (.cells #[.int .i64 q.f0,.string q.f1,.string q.f2,.string q.f3,.int .i64 q.f4,.slice B5 q.f5.length d5,.slice B6 q.f6.length d6] 24 (0,0))) :
  Calls Tryd.prog 86 #[.pointer (some ⟨gp,0,none⟩),.pointer (some ⟨gq,0,none⟩)] w fun e w' => e = .returned (.bool (bothS p q).2.2) ∧ Left2 w gp gq (cs (bothS p q).1 A5 c5 A6 c6) (cs (bothS p q).2.1 B5 d5 B6 d6) w':=by
 have pc0 : w.cell? ⟨gp,0,none⟩ = some (.int .i64 p.f0):=(blk_cell hp 0).trans rfl
 have pf0:=blk_frozen hp 0
 have pc1 : w.cell? ⟨gp,1,none⟩ = some (.string p.f1):=(blk_cell hp 1).trans rfl
 have pf1:=blk_frozen hp 1
 have pc2 : w.cell? ⟨gp,2,none⟩ = some (.string p.f2):=(blk_cell hp 2).trans rfl
 have pf2:=blk_frozen hp 2
 have pc3 : w.cell? ⟨gp,3,none⟩ = some (.string p.f3):=(blk_cell hp 3).trans rfl
 have pf3:=blk_frozen hp 3
 have pc4 : w.cell? ⟨gp,4,none⟩ = some (.int .i64 p.f4):=(blk_cell hp 4).trans rfl
 have pf4:=blk_frozen hp 4
 have pc5 : w.cell? ⟨gp,5,none⟩ = some (.slice A5 p.f5.length c5):=(blk_cell hp 5).trans rfl
 have pf5:=blk_frozen hp 5
 have pc6 : w.cell? ⟨gp,6,none⟩ = some (.slice A6 p.f6.length c6):=(blk_cell hp 6).trans rfl
 have pf6:=blk_frozen hp 6
 have qc0 : w.cell? ⟨gq,0,none⟩ = some (.int .i64 q.f0):=(blk_cell hq 0).trans rfl
 have qf0:=blk_frozen hq 0
 have qc1 : w.cell? ⟨gq,1,none⟩ = some (.string q.f1):=(blk_cell hq 1).trans rfl
 have qf1:=blk_frozen hq 1
 have qc2 : w.cell? ⟨gq,2,none⟩ = some (.string q.f2):=(blk_cell hq 2).trans rfl
 have qf2:=blk_frozen hq 2
 have qc3 : w.cell? ⟨gq,3,none⟩ = some (.string q.f3):=(blk_cell hq 3).trans rfl
 have qf3:=blk_frozen hq 3
 have qc4 : w.cell? ⟨gq,4,none⟩ = some (.int .i64 q.f4):=(blk_cell hq 4).trans rfl
 have qf4:=blk_frozen hq 4
 have qc5 : w.cell? ⟨gq,5,none⟩ = some (.slice B5 q.f5.length d5):=(blk_cell hq 5).trans rfl
 have qf5:=blk_frozen hq 5
 have qc6 : w.cell? ⟨gq,6,none⟩ = some (.slice B6 q.f6.length d6):=(blk_cell hq 6).trans rfl
 have qf6:=blk_frozen hq 6
 unfold bothS
 by_cases h1 : p.f1.toList = q.f1.toList
 ·have b1 : (p.f1.toList != q.f1.toList) = false:=by simpa using h1
  have b1' : (p.f1.toList == q.f1.toList) = true:=by simpa using h1
  rw [if_pos h1]
  clear h1
  by_cases h7 : p.f0 = 7
  ·have b2 : (p.f0 != 7) = false:=by simpa using h7
   have b2' : (p.f0 == 7) = true:=by simpa using h7
   by_cases h8 : q.f0 = 7
   ·have b3 : (q.f0 != 7) = false:=by simpa using h8
    have b3' : (q.f0 == 7) = true:=by simpa using h8
    rw [if_pos ⟨h7,h8⟩]
    clear h7 h8
    by_cases h3 : wrap64 (q.f4 - (p.f6.length : Int)) > p.f4
    ·have b4 : decide (p.f4 < wrap64 (q.f4 - (p.f6.length : Int))) = true:=decide_eq_true h3
     rw [if_pos h3]
     clear h3
     go_enter Tryd.func86,Tryd.ntmps86
     go_wp2
     all_goals go_region
     all_goals go_wp2
     all_goals go_region
     all_goals go_wp2
     all_goals go_region
     all_goals go_wp2
     all_goals go_ret
     all_goals exact ⟨rfl,by repeat (first | exact Left2.set_q (i:=4) hne hp hq | refine Left2.drew ?_)⟩
    ·have b4 : decide (p.f4 < wrap64 (q.f4 - (p.f6.length : Int))) = false:=decide_eq_false h3
     rw [if_neg h3]
     clear h3
     by_cases h5 : wrap64 (p.f4 - (q.f5.length : Int)) > q.f4
     ·have b5 : decide (q.f4 < wrap64 (p.f4 - (q.f5.length : Int))) = true:=decide_eq_true h5
      rw [if_pos h5]
      clear h5
      go_enter Tryd.func86,Tryd.ntmps86
      go_wp2
      all_goals go_region
      all_goals go_wp2
      all_goals go_region
      all_goals go_wp2
      all_goals go_region
      all_goals go_wp2
      all_goals go_region
      all_goals go_wp2
      all_goals go_ret
      all_goals exact ⟨rfl,by repeat (first | exact Left2.set_p (i:=4) hne hp hq | refine Left2.drew ?_)⟩
     ·have b5 : decide (q.f4 < wrap64 (p.f4 - (q.f5.length : Int))) = false:=decide_eq_false h5
      rw [if_neg h5]
      clear h5
      go_enter Tryd.func86,Tryd.ntmps86
      go_wp2
      all_goals go_region
      all_goals go_wp2
      all_goals go_region
      all_goals go_wp2
      all_goals go_region
      all_goals go_wp2
      all_goals go_ret
      all_goals exact ⟨rfl,Left2.of_below hp hq (by repeat (first | exact Below.refl _ _ | refine Below.drew ?_))⟩
   ·have b3 : (q.f0 != 7) = true:=by simpa using h8
    have b3' : (q.f0 == 7) = false:=by simpa using h8
    rw [if_neg (fun h => h8 h.2)]
    clear h7 h8
    go_enter Tryd.func86,Tryd.ntmps86
    go_wp2
    all_goals go_region
    all_goals go_wp2
    all_goals go_ret
    all_goals exact ⟨rfl,Left2.of_below hp hq (by repeat (first | exact Below.refl _ _ | refine Below.drew ?_))⟩
  ·have b2 : (p.f0 != 7) = true:=by simpa using h7
   have b2' : (p.f0 == 7) = false:=by simpa using h7
   rw [if_neg (fun h => h7 h.1)]
   clear h7
   go_enter Tryd.func86,Tryd.ntmps86
   go_wp2
   all_goals go_region
   all_goals go_wp2
   all_goals go_ret
   all_goals exact ⟨rfl,Left2.of_below hp hq (by repeat (first | exact Below.refl _ _ | refine Below.drew ?_))⟩
 ·have b1 : (p.f1.toList != q.f1.toList) = true:=by simpa using h1
  have b1' : (p.f1.toList == q.f1.toList) = false:=by simpa using h1
  rw [if_neg h1]
  clear h1
  go_enter Tryd.func86,Tryd.ntmps86
  go_wp2
  all_goals go_region
  all_goals go_wp2
  all_goals go_ret
  all_goals exact ⟨rfl,Left2.of_below hp hq (by repeat (first | exact Below.refl _ _ | refine Below.drew ?_))⟩
end Go.Proofs.YthhohbidjhcjeaaDoor.H

namespace Go.Proofs.YthhohbidjhcjeaaDoor.H
open Go.RowKit Go.Proofs.YthhohbidjhcjeaaDoorW.PrintWords Go.Proofs.YthhohbidjhcjeaaDoorW.PrintLast Go.Proofs.YthhohbidjhcjeaaDoorW.PrintMore
open Go.Proofs.YthhohbidjhcjeaaDoor.Q Go.Proofs.YthhohbidjhcjeaaDoor.Pl

/-- Where what lies in a place lies when that is moved. -/
def movedS (p fr dst : ByteArray) : ByteArray × Bool:=if withinB p fr = true then (dst ++ p.extract fr.size p.size,true) else (⟨#[]⟩,false)
theorem within_le {a b : ByteArray} (h : withinB a b = true) : b.size ≤ a.size:=by
 unfold withinB at h
 split at h
 ·rename_i h2
  exact h2.2
 ·cases h
set_option maxHeartbeats 1000000 in
set_option maxRecDepth 100000 in
theorem moved_calls (p fr dst : ByteArray) (w : World) (hs : dst.size + p.size ≤ 140737488355328) : Calls Tryd.prog 108 #[.string p,.string fr,.string dst] w fun e w' => e = .returned (.tuple #[.string (movedS p fr dst).1,.bool (movedS p fr dst).2]) ∧ Below w.heap.size w w':=by
 have hW:=path_Within.calls p fr (withinB p fr) w (within_f p fr)
 unfold movedS
 cases hb : withinB p fr with
 | false =>
  rw [hb] at hW
  rw [if_neg (by simp)]
  go_enter Tryd.func108,Tryd.ntmps108
  go_wp2_with (go_at_call 79; refine hW.mono ?_; rintro e w' ⟨rfl,m,rfl⟩)
  refine bodyPost_ret ?_ rfl ⟨rfl,pw_below_drewN (Below.refl _ w) m⟩
  simp [results,Tryd.results108]
 | true =>
  have hle:=within_le hb
  rw [hb] at hW
  rw [if_pos rfl]
  have hlen : (dst.size : Int) + ((p.size - fr.size : Nat) : Int) ≤ 9223372036854775807:=by omega
  have hsl : ∀ W,(Instr.slice 9 (.string p) (some (.int .i64 (fr.size : Int))) none none).run Tryd.prog W = .ok (.string (p.extract fr.size p.size)) W:=fun W => by
   rw [run_slice_string_from_if W 9 p .i64 _ Tryd.underlying9,if_pos ⟨by omega,by omega⟩,Int.toNat_natCast]
  go_enter Tryd.func108,Tryd.ntmps108
  go_wp2_with (go_at_call 79; refine hW.mono ?_; rintro e w' ⟨rfl,m,rfl⟩)
  refine bodyPost_ret ?_ rfl ⟨rfl,pw_below_drewN (Below.refl _ w) m⟩
  simp [results,Tryd.results108]
/-- What a write into one box leaves. -/
structure Left1 (w : World) (g : Nat) (c : Array Value) (w' : World) : Prop where
 p : w'.heap[g]? = some (.cells c 24 (0,0))
 size : w.heap.size ≤ w'.heap.size
 other : ∀ k,k < w.heap.size → k ≠ g → w'.heap[k]? = w.heap[k]?
 below : ∀ (B : Nat) (w0 : World),Below B w0 w → B ≤ g → Below B w0 w'
theorem Left1.of_below {w w' : World} {g : Nat} {c : Array Value} (hp : w.heap[g]? = some (.cells c 24 (0,0))) (h : Below w.heap.size w w') : Left1 w g c w' :=
 ⟨(h.block _ (blk_lt hp)).trans hp,h.size,fun k hk _ => h.block k hk,fun B w0 hb h1 => hb.trans (h.mono (by have:=blk_lt hp; omega))⟩
theorem Left1.set {w w1 : World} {g i : Nat} {c : Array Value} {v : Value} (h : Left1 w g c w1) : Left1 w g (c.setIfInBounds i v) (w1.setCell ⟨g,i,none⟩ v) :=
 ⟨blk_set h.p i v,by simpa using h.size,fun k hk h1 => (Below.heap_setCell w1 _ v k h1).trans (h.other k hk h1),fun B w0 hb h1 => Below.setCell (p:=⟨g,i,none⟩) (h.below B w0 hb h1) h1 _⟩
theorem Left1.drew {w w1 : World} {g : Nat} {c : Array Value} (h : Left1 w g c w1) : Left1 w g c w1.drew:=⟨h.p,h.size,h.other,fun B w0 hb h1 => (h.below B w0 hb h1).drew⟩
theorem Left1.two_p {w w' : World} {gp gq : Nat} {cp cq : Array Value} (hne : gp ≠ gq) (hq : w.heap[gq]? = some (.cells cq 24 (0,0))) (h : Left1 w gp cp w') : Left2 w gp gq cp cq w' :=
 ⟨h.p,(h.other gq (blk_lt hq) (Ne.symm hne)).trans hq,h.size,fun k hk h1 _ => h.other k hk h1,fun B w0 hb h1 _ => h.below B w0 hb h1⟩
theorem Left1.two_q {w w' : World} {gp gq : Nat} {cp cq : Array Value} (hne : gp ≠ gq) (hp : w.heap[gp]? = some (.cells cp 24 (0,0))) (h : Left1 w gq cq w') : Left2 w gp gq cp cq w' :=
 ⟨(h.other gp (blk_lt hp) hne).trans hp,h.p,h.size,fun k hk _ h1 => h.other k hk h1,fun B w0 hb _ h1 => h.below B w0 hb h1⟩
/-- A path that is carried from one place to another one. -/
def carryS (s fr dst : ByteArray) : ByteArray × Bool:=if withinB s fr = true then (dst ++ s.extract fr.size s.size,true) else (s,!withinB s dst)
set_option maxHeartbeats 1000000 in
set_option maxRecDepth 100000 in
theorem carry_calls (x : S24) (A5 : Option Addr) (c5 : Nat) (A6 : Option Addr) (c6 : Nat) (g : Nat) (fr dst : ByteArray) (w : World) (hs : dst.size + x.f1.size ≤ 140737488355328) (hp : w.heap[g]? = some (.cells #[.int .i64 x.f0,.string x.f1,.string x.f2,.string x.f3,.int .i64 x.f4,.slice A5 x.f5.length c5,.slice A6 x.f6.length c6] 24 (0,0))) :
  Calls Tryd.prog 88 #[.pointer (some ⟨g,1,none⟩),.string fr,.string dst] w fun e w' => e = .returned (.bool (carryS x.f1 fr dst).2) ∧ Left1 w g #[.int .i64 x.f0,.string (carryS x.f1 fr dst).1,.string x.f2,.string x.f3,.int .i64 x.f4,.slice A5 x.f5.length c5,.slice A6 x.f6.length c6] w':=by
 have hM:=fun W => moved_calls x.f1 fr dst W hs
 have hW:=fun W => path_Within.calls x.f1 dst (withinB x.f1 dst) W (within_f x.f1 dst)
 have pc1 : w.cell? ⟨g,1,none⟩ = some (.string x.f1):=(blk_cell hp 1).trans rfl
 have pf1:=blk_frozen hp 1
 unfold carryS
 unfold movedS at hM
 cases hb : withinB x.f1 fr with
 | false =>
  simp only [hb,Bool.false_eq_true,if_false] at hM ⊢
  obtain ⟨b,hbb⟩ : ∃ b,withinB x.f1 dst = b:=⟨_,rfl⟩
  rw [hbb] at hW ⊢
  clear hbb
  go_enter Tryd.func88,Tryd.ntmps88
  go_wp2_with (fail)
  refine (hM w).mono ?_
  rintro e w1 ⟨rfl,hb1⟩
  have q1 : w1.cell? ⟨g,1,none⟩ = some (.string x.f1):=(blk_cell (blk_below hp hb1) 1).trans rfl
  go_wp2_with (fail)
  refine (hW w1).mono ?_
  rintro e w2 ⟨rfl,m,rfl⟩
  go_wp2
  go_ret
  exact ⟨rfl,Left1.of_below hp (pw_below_drewN hb1 m)⟩
 | true =>
  simp only [hb,if_true] at hM ⊢
  go_enter Tryd.func88,Tryd.ntmps88
  go_wp2_with (fail)
  refine (hM w).mono ?_
  rintro e w1 ⟨rfl,hb1⟩
  have q1 : w1.cell? ⟨g,1,none⟩ = some (.string x.f1):=(blk_cell (blk_below hp hb1) 1).trans rfl
  have qf1:=blk_frozen (blk_below hp hb1) 1
  go_wp2
  go_ret
  exact ⟨rfl,Left1.set (i:=1) (Left1.of_below hp hb1)⟩
theorem Left1.of_drew {w w1 : World} {g : Nat} {c : Array Value} (h : Left1 w.drew g c w1) : Left1 w g c w1:=⟨h.p,h.size,h.other,fun B w0 hb h1 => h.below B w0 hb.drew h1⟩
set_option maxHeartbeats 2000000 in
set_option maxRecDepth 100000 in
theorem rule1_calls (p q : S24) (A5 : Option Addr) (c5 : Nat) (A6 : Option Addr) (c6 : Nat) (B5 : Option Addr) (d5 : Nat) (B6 : Option Addr) (d6 : Nat) (gp gq : Nat) (hne : gp ≠ gq) (w : World)
  (hp : w.heap[gp]? = some (.cells #[.int .i64 p.f0,.string p.f1,.string p.f2,.string p.f3,.int .i64 p.f4,.slice A5 p.f5.length c5,.slice A6 p.f6.length c6] 24 (0,0))) (hq : w.heap[gq]? = some (.cells #[.int .i64 q.f0,.string q.f1,.string q.f2,.string q.f3,.int .i64 q.f4,.slice B5 q.f5.length d5,.slice B6 q.f6.length d6] 24 (0,0))) (hs : q.f2.size + p.f1.size ≤ 140737488355328) :
  Calls Tryd.prog 87 #[.pointer (some ⟨gp,0,none⟩),.pointer (some ⟨gq,0,none⟩)] w fun e w' => e = .returned (.bool (carryS p.f1 q.f1 q.f2).2) ∧ Left2 w gp gq (cs { p with f1:=(carryS p.f1 q.f1 q.f2).1 } A5 c5 A6 c6) (cs q B5 d5 B6 d6) w':=by
 have pc0 : w.cell? ⟨gp,0,none⟩ = some (.int .i64 p.f0):=(blk_cell hp 0).trans rfl
 have pf0:=blk_frozen hp 0
 have pc1 : w.cell? ⟨gp,1,none⟩ = some (.string p.f1):=(blk_cell hp 1).trans rfl
 have pf1:=blk_frozen hp 1
 have pc2 : w.cell? ⟨gp,2,none⟩ = some (.string p.f2):=(blk_cell hp 2).trans rfl
 have pf2:=blk_frozen hp 2
 have pc3 : w.cell? ⟨gp,3,none⟩ = some (.string p.f3):=(blk_cell hp 3).trans rfl
 have pf3:=blk_frozen hp 3
 have pc4 : w.cell? ⟨gp,4,none⟩ = some (.int .i64 p.f4):=(blk_cell hp 4).trans rfl
 have pf4:=blk_frozen hp 4
 have pc5 : w.cell? ⟨gp,5,none⟩ = some (.slice A5 p.f5.length c5):=(blk_cell hp 5).trans rfl
 have pf5:=blk_frozen hp 5
 have pc6 : w.cell? ⟨gp,6,none⟩ = some (.slice A6 p.f6.length c6):=(blk_cell hp 6).trans rfl
 have pf6:=blk_frozen hp 6
 have qc0 : w.cell? ⟨gq,0,none⟩ = some (.int .i64 q.f0):=(blk_cell hq 0).trans rfl
 have qf0:=blk_frozen hq 0
 have qc1 : w.cell? ⟨gq,1,none⟩ = some (.string q.f1):=(blk_cell hq 1).trans rfl
 have qf1:=blk_frozen hq 1
 have qc2 : w.cell? ⟨gq,2,none⟩ = some (.string q.f2):=(blk_cell hq 2).trans rfl
 have qf2:=blk_frozen hq 2
 have qc3 : w.cell? ⟨gq,3,none⟩ = some (.string q.f3):=(blk_cell hq 3).trans rfl
 have qf3:=blk_frozen hq 3
 have qc4 : w.cell? ⟨gq,4,none⟩ = some (.int .i64 q.f4):=(blk_cell hq 4).trans rfl
 have qf4:=blk_frozen hq 4
 have qc5 : w.cell? ⟨gq,5,none⟩ = some (.slice B5 q.f5.length d5):=(blk_cell hq 5).trans rfl
 have qf5:=blk_frozen hq 5
 have qc6 : w.cell? ⟨gq,6,none⟩ = some (.slice B6 q.f6.length d6):=(blk_cell hq 6).trans rfl
 have qf6:=blk_frozen hq 6
 go_enter Tryd.func87,Tryd.ntmps87
 go_wp2
 all_goals go_region_with (go_at_call 88; refine (carry_calls p A5 c5 A6 c6 gp q.f1 q.f2 _ hs (by exact hp)).mono ?_; rintro e w1 ⟨rfl,hb1⟩)
 all_goals go_wp2
 all_goals go_ret
 all_goals exact ⟨rfl,Left1.two_p hne hq (by repeat (first | exact hb1 | refine Left1.drew ?_ | refine Left1.of_drew ?_))⟩
set_option maxHeartbeats 2000000 in
set_option maxRecDepth 100000 in
theorem rule2_calls (p q : S24) (A5 : Option Addr) (c5 : Nat) (A6 : Option Addr) (c6 : Nat) (B5 : Option Addr) (d5 : Nat) (B6 : Option Addr) (d6 : Nat) (gp gq : Nat) (hne : gp ≠ gq) (w : World)
  (hp : w.heap[gp]? = some (.cells #[.int .i64 p.f0,.string p.f1,.string p.f2,.string p.f3,.int .i64 p.f4,.slice A5 p.f5.length c5,.slice A6 p.f6.length c6] 24 (0,0))) (hq : w.heap[gq]? = some (.cells #[.int .i64 q.f0,.string q.f1,.string q.f2,.string q.f3,.int .i64 q.f4,.slice B5 q.f5.length d5,.slice B6 q.f6.length d6] 24 (0,0))) (hs : p.f1.size + q.f1.size ≤ 140737488355328) :
  Calls Tryd.prog 89 #[.pointer (some ⟨gp,0,none⟩),.pointer (some ⟨gq,0,none⟩)] w fun e w' => e = .returned (.bool (carryS q.f1 p.f2 p.f1).2) ∧ Left2 w gp gq (cs p A5 c5 A6 c6) (cs { q with f1:=(carryS q.f1 p.f2 p.f1).1 } B5 d5 B6 d6) w':=by
 have pc0 : w.cell? ⟨gp,0,none⟩ = some (.int .i64 p.f0):=(blk_cell hp 0).trans rfl
 have pf0:=blk_frozen hp 0
 have pc1 : w.cell? ⟨gp,1,none⟩ = some (.string p.f1):=(blk_cell hp 1).trans rfl
 have pf1:=blk_frozen hp 1
 have pc2 : w.cell? ⟨gp,2,none⟩ = some (.string p.f2):=(blk_cell hp 2).trans rfl
 have pf2:=blk_frozen hp 2
 have pc3 : w.cell? ⟨gp,3,none⟩ = some (.string p.f3):=(blk_cell hp 3).trans rfl
 have pf3:=blk_frozen hp 3
 have pc4 : w.cell? ⟨gp,4,none⟩ = some (.int .i64 p.f4):=(blk_cell hp 4).trans rfl
 have pf4:=blk_frozen hp 4
 have pc5 : w.cell? ⟨gp,5,none⟩ = some (.slice A5 p.f5.length c5):=(blk_cell hp 5).trans rfl
 have pf5:=blk_frozen hp 5
 have pc6 : w.cell? ⟨gp,6,none⟩ = some (.slice A6 p.f6.length c6):=(blk_cell hp 6).trans rfl
 have pf6:=blk_frozen hp 6
 have qc0 : w.cell? ⟨gq,0,none⟩ = some (.int .i64 q.f0):=(blk_cell hq 0).trans rfl
 have qf0:=blk_frozen hq 0
 have qc1 : w.cell? ⟨gq,1,none⟩ = some (.string q.f1):=(blk_cell hq 1).trans rfl
 have qf1:=blk_frozen hq 1
 have qc2 : w.cell? ⟨gq,2,none⟩ = some (.string q.f2):=(blk_cell hq 2).trans rfl
 have qf2:=blk_frozen hq 2
 have qc3 : w.cell? ⟨gq,3,none⟩ = some (.string q.f3):=(blk_cell hq 3).trans rfl
 have qf3:=blk_frozen hq 3
 have qc4 : w.cell? ⟨gq,4,none⟩ = some (.int .i64 q.f4):=(blk_cell hq 4).trans rfl
 have qf4:=blk_frozen hq 4
 have qc5 : w.cell? ⟨gq,5,none⟩ = some (.slice B5 q.f5.length d5):=(blk_cell hq 5).trans rfl
 have qf5:=blk_frozen hq 5
 have qc6 : w.cell? ⟨gq,6,none⟩ = some (.slice B6 q.f6.length d6):=(blk_cell hq 6).trans rfl
 have qf6:=blk_frozen hq 6
 go_enter Tryd.func89,Tryd.ntmps89
 go_wp2
 all_goals go_region_with (go_at_call 88; refine (carry_calls q B5 d5 B6 d6 gq p.f2 p.f1 _ hs (by exact hq)).mono ?_; rintro e w1 ⟨rfl,hb1⟩)
 all_goals go_wp2
 all_goals go_ret
 all_goals exact ⟨rfl,Left1.two_q hne hp (by repeat (first | exact hb1 | refine Left1.drew ?_ | refine Left1.of_drew ?_))⟩
end Go.Proofs.YthhohbidjhcjeaaDoor.H

namespace Go.Proofs.YthhohbidjhcjeaaDoor.H
open Go.RowKit Go.Proofs.YthhohbidjhcjeaaDoorW.PrintWords Go.Proofs.YthhohbidjhcjeaaDoorW.PrintLast Go.Proofs.YthhohbidjhcjeaaDoorW.PrintMore
open Go.Proofs.YthhohbidjhcjeaaDoor.Q Go.Proofs.YthhohbidjhcjeaaDoor.Pl

abbrev zeroC : Array Value:=#[.int .i64 0,.string ⟨#[]⟩,.string ⟨#[]⟩,.string ⟨#[]⟩,.int .i64 0,.slice none 0 0,.slice none 0 0]
/-- The four boxes of Commute: the two patches, and the two results. -/
structure St (w : World) (cp cq : Array Value) (W : World) : Prop where
 p : W.heap[w.heap.size]? = some (.cells cp 24 (0,0))
 q : W.heap[w.heap.size + 1]? = some (.cells cq 24 (0,0))
 x : W.heap[w.heap.size + 1 + 1]? = some (.cells zeroC 24 (0,0))
 y : W.heap[w.heap.size + 1 + 1 + 1]? = some (.cells zeroC 24 (0,0))
 below : Below w.heap.size w W
theorem St.start (w : World) (cp cq : Array Value) : St w cp cq ((((w.alloc (.cells cp 24)).alloc (.cells cq 24)).alloc (.cells zeroC 24)).alloc (.cells zeroC 24)):=by
 refine ⟨blk_alloc (blk_alloc (blk_alloc (blk_new w _) _) _) _,?_,?_,?_,?_⟩
 ·have h:=blk_alloc (blk_alloc (blk_new (w.alloc (.cells cp 24)) (.cells cq 24)) (.cells zeroC 24)) (.cells zeroC 24)
  simpa using h
 ·have h:=blk_alloc (blk_new ((w.alloc (.cells cp 24)).alloc (.cells cq 24)) (.cells zeroC 24)) (.cells zeroC 24)
  simpa using h
 ·have h:=blk_new (((w.alloc (.cells cp 24)).alloc (.cells cq 24)).alloc (.cells zeroC 24)) (.cells zeroC 24)
  simpa using h
 ·exact ((((Below.refl _ w).alloc (Nat.le_refl _) _).alloc (by simp) _).alloc (by simp; omega) _).alloc (by simp; omega) _
theorem St.drew {w W : World} {cp cq : Array Value} (h : St w cp cq W) : St w cp cq W.drew:=⟨h.p,h.q,h.x,h.y,h.below.drew⟩
theorem St.later {w W W' : World} {cp cq : Array Value} (h : St w cp cq W) (hb : Below W.heap.size W W') : St w cp cq W' :=
 ⟨blk_below h.p hb,blk_below h.q hb,blk_below h.x hb,blk_below h.y hb,h.below.trans (hb.mono h.below.size)⟩
theorem St.left {w W W' : World} {cp cq cp' cq' : Array Value} (h : St w cp cq W) (k : Left2 W w.heap.size (w.heap.size + 1) cp' cq' W') : St w cp' cq' W' :=
 ⟨k.p,k.q,(k.other _ (blk_lt h.x) (by omega) (by omega)).trans h.x,(k.other _ (blk_lt h.y) (by omega) (by omega)).trans h.y,k.below _ _ h.below (Nat.le_refl _) (Nat.le_succ _)⟩
/-- A patch whose lists are known in w. -/
structure Rd (w : World) (x : S24) (A5 : Option Addr) (c5 : Nat) (A6 : Option Addr) (c6 : Nat) : Prop where
 g5 : Kd.C Kd.string w A5 x.f5.length x.f5
 l5 : x.f5.length ≤ c5
 g6 : Kd.C Kd.string w A6 x.f6.length x.f6
 l6 : x.f6.length ≤ c6
theorem right_st (x : S24) (A5 : Option Addr) (c5 : Nat) (A6 : Option Addr) (c6 : Nat) (w W : World) (cp cq : Array Value) (hx : Okp x) (hr : Rd w x A5 c5 A6 c6) (h : St w cp cq W) :
  Calls Tryd.prog 19 #[.agg #[.int .i64 x.f0,.string x.f1,.string x.f2,.string x.f3,.int .i64 x.f4,.slice A5 x.f5.length c5,.slice A6 x.f6.length c6]] W fun e W' => e = .returned (.bool (primB x)) ∧ St w cp cq W':=by
 obtain ⟨k,hk⟩:=(prim_right x hx).rounds
 refine (prim_Right.calls k _ _ _ _ _ _ _ _ _ _ _ _ W (Kd.C_below hr.g5 h.below) hr.l5 (Kd.C_below hr.g6 h.below) hr.l6 hk).mono ?_
 rintro e W' ⟨rfl,hb⟩
 exact ⟨rfl,h.later hb⟩
/-- A patch's class. -/
def classS (x : S24) : Int:=if x.f0 = 10 then 2 else if x.f0 ≥ 7 then 1 else 0
theorem class_st (x : S24) (A5 : Option Addr) (c5 : Nat) (A6 : Option Addr) (c6 : Nat) (w W : World) (cp cq : Array Value) (hr : Rd w x A5 c5 A6 c6) (h : St w cp cq W) :
  Calls Tryd.prog 53 #[.agg #[.int .i64 x.f0,.string x.f1,.string x.f2,.string x.f3,.int .i64 x.f4,.slice A5 x.f5.length c5,.slice A6 x.f6.length c6]] W fun e W' => e = .returned (.int .i64 (classS x)) ∧ St w cp cq W':=by
 have hk : commute_class.f x.f0 x.f1 x.f2 x.f3 x.f4 x.f5 x.f6 = some (classS x):=by
  unfold commute_class.f classS
  split
  ·rfl
  ·split <;> rfl
 refine (commute_class.calls _ _ _ _ _ _ _ _ _ _ _ _ W (Kd.C_below hr.g5 h.below) hr.l5 (Kd.C_below hr.g6 h.below) hr.l6 hk).mono ?_
 rintro e W' ⟨rfl,hb⟩
 exact ⟨rfl,h.later hb⟩
/-- The table of the rules. -/
def rulesV : Array Value:=#[.func (.func 84) #[] #[],.func (.func 85) #[] #[],.func (.func 84) #[] #[],.func (.func 85) #[] #[],.func (.func 86) #[] #[],.func (.func 87) #[] #[],.func (.func 84) #[] #[],.func (.func 89) #[] #[],.func (.func 84) #[] #[]]
set_option maxRecDepth 100000 in
theorem rules_calls (w : World) : Calls Tryd.prog 52 #[] w fun e w' => e = .returned (.agg rulesV) ∧ Below w.heap.size w w':=by
 go_enter Tryd.func52,Tryd.ntmps52
 go_wp2
 refine bodyPost_ret (v:=.agg rulesV) ?_ rfl ⟨rfl,?_⟩
 ·simp [results,Tryd.results52,go_sem,rulesV]
 ·exact (Below.refl _ w).alloc (Nat.le_refl _) _
theorem rules_st (w W : World) (cp cq : Array Value) (h : St w cp cq W) : Calls Tryd.prog 52 #[] W fun e W' => e = .returned (.agg rulesV) ∧ St w cp cq W' :=
 (rules_calls W).mono (fun _ _ ⟨he,hb⟩ => ⟨he,h.later hb⟩)
/-- Where the orders of a region meet: what follows is shown once, of every world that meets S. -/
theorem cutG {S G : World → Prop} {goal : Prop} (h : (∀ W,S W → G W) → goal) (h2 : ∀ W,S W → G W) : goal:=h h2
/-- What is read in a box, and that it may be written. -/
theorem cells7 {W : World} {g : Nat} {v0 v1 v2 v3 v4 v5 v6 : Value} (h : W.heap[g]? = some (.cells #[v0,v1,v2,v3,v4,v5,v6] 24 (0,0))) : W.cell? ⟨g,0,none⟩ = some v0 ∧ W.cell? ⟨g,1,none⟩ = some v1 ∧ W.cell? ⟨g,2,none⟩ = some v2 ∧ W.cell? ⟨g,3,none⟩ = some v3 ∧ W.cell? ⟨g,4,none⟩ = some v4 ∧ W.cell? ⟨g,5,none⟩ = some v5 ∧ W.cell? ⟨g,6,none⟩ = some v6 :=
 ⟨(blk_cell h 0).trans rfl,(blk_cell h 1).trans rfl,(blk_cell h 2).trans rfl,(blk_cell h 3).trans rfl,(blk_cell h 4).trans rfl,(blk_cell h 5).trans rfl,(blk_cell h 6).trans rfl⟩
theorem frozen7 {W : World} {g : Nat} {c : Array Value} (h : W.heap[g]? = some (.cells c 24 (0,0))) : W.frozen? ⟨g,0,none⟩ = false ∧ W.frozen? ⟨g,1,none⟩ = false ∧ W.frozen? ⟨g,2,none⟩ = false ∧ W.frozen? ⟨g,3,none⟩ = false ∧ W.frozen? ⟨g,4,none⟩ = false ∧ W.frozen? ⟨g,5,none⟩ = false ∧ W.frozen? ⟨g,6,none⟩ = false:=⟨blk_frozen h 0,blk_frozen h 1,blk_frozen h 2,blk_frozen h 3,blk_frozen h 4,blk_frozen h 5,blk_frozen h 6⟩
/-- .. and behind what is laid beside it. -/
theorem deep1 {W : World} {g : Nat} {v0 v1 v2 v3 v4 v5 v6 : Value} (h : W.heap[g]? = some (.cells #[v0,v1,v2,v3,v4,v5,v6] 24 (0,0))) : (∀ o,(W.alloc o).cell? ⟨g,0,none⟩ = some v0) ∧ (∀ o,(W.alloc o).cell? ⟨g,1,none⟩ = some v1) ∧ (∀ o,(W.alloc o).cell? ⟨g,2,none⟩ = some v2) ∧ (∀ o,(W.alloc o).cell? ⟨g,3,none⟩ = some v3) ∧ (∀ o,(W.alloc o).cell? ⟨g,4,none⟩ = some v4) ∧ (∀ o,(W.alloc o).cell? ⟨g,5,none⟩ = some v5) ∧ (∀ o,(W.alloc o).cell? ⟨g,6,none⟩ = some v6) :=
 ⟨fun o => (blk_cell (blk_alloc h o) 0).trans rfl,fun o => (blk_cell (blk_alloc h o) 1).trans rfl,fun o => (blk_cell (blk_alloc h o) 2).trans rfl,fun o => (blk_cell (blk_alloc h o) 3).trans rfl,fun o => (blk_cell (blk_alloc h o) 4).trans rfl,fun o => (blk_cell (blk_alloc h o) 5).trans rfl,fun o => (blk_cell (blk_alloc h o) 6).trans rfl⟩
/-- A patch written into a box. -/
theorem set7 {W : World} {g : Nat} {c : Array Value} (h : W.heap[g]? = some (.cells c 24 (0,0))) (hc : c.size = 7) (v0 v1 v2 v3 v4 v5 v6 : Value) : (((((((W.setCell ⟨g,0,none⟩ v0).setCell ⟨g,1,none⟩ v1).setCell ⟨g,2,none⟩ v2).setCell ⟨g,3,none⟩ v3).setCell ⟨g,4,none⟩ v4).setCell ⟨g,5,none⟩ v5).setCell ⟨g,6,none⟩ v6).heap[g]? = some (.cells #[v0,v1,v2,v3,v4,v5,v6] 24 (0,0)):=by
 refine (blk_set (blk_set (blk_set (blk_set (blk_set (blk_set (blk_set h 0 v0) 1 v1) 2 v2) 3 v3) 4 v4) 5 v5) 6 v6).trans ?_
 refine congrArg (fun a => some (Obj.cells a 24 (0,0))) ?_
 obtain ⟨l⟩:=c
 match l,hc with
 | [a0,a1,a2,a3,a4,a5,a6],_ => rfl
theorem keep7 {W : World} {g k : Nat} (hk : k ≠ g) (v0 v1 v2 v3 v4 v5 v6 : Value) : (((((((W.setCell ⟨g,0,none⟩ v0).setCell ⟨g,1,none⟩ v1).setCell ⟨g,2,none⟩ v2).setCell ⟨g,3,none⟩ v3).setCell ⟨g,4,none⟩ v4).setCell ⟨g,5,none⟩ v5).setCell ⟨g,6,none⟩ v6).heap[k]? = W.heap[k]?:=by
 rw [Below.heap_setCell _ _ _ _ hk,Below.heap_setCell _ _ _ _ hk,Below.heap_setCell _ _ _ _ hk,Below.heap_setCell _ _ _ _ hk,Below.heap_setCell _ _ _ _ hk,Below.heap_setCell _ _ _ _ hk,Below.heap_setCell _ _ _ _ hk]
theorem below7 {W w : World} {g B : Nat} (hb : Below B w W) (hg : B ≤ g) (v0 v1 v2 v3 v4 v5 v6 : Value) : Below B w (((((((W.setCell ⟨g,0,none⟩ v0).setCell ⟨g,1,none⟩ v1).setCell ⟨g,2,none⟩ v2).setCell ⟨g,3,none⟩ v3).setCell ⟨g,4,none⟩ v4).setCell ⟨g,5,none⟩ v5).setCell ⟨g,6,none⟩ v6) :=
 Below.setCell (Below.setCell (Below.setCell (Below.setCell (Below.setCell (Below.setCell (Below.setCell hb hg _) hg _) hg _) hg _) hg _) hg _) hg _
theorem drew_at {W : World} {k : Nat} {o : Option Obj} (h : W.heap[k]? = o) : W.drew.heap[k]? = o:=h
theorem ret24 {tmps : Array Value} {W : World} {gx gy : Nat} {x0 x1 x2 x3 x4 x5 x6 y0 y1 y2 y3 y4 y5 y6 r : Value} (h4 : tmps[4]? = some (.pointer (some ⟨gx,0,none⟩))) (h5 : tmps[5]? = some (.pointer (some ⟨gy,0,none⟩))) (h6 : tmps[6]? = some r)
  (hx : W.heap[gx]? = some (.cells #[x0,x1,x2,x3,x4,x5,x6] 24 (0,0))) (hy : W.heap[gy]? = some (.cells #[y0,y1,y2,y3,y4,y5,y6] 24 (0,0))) :
  (results Tryd.f24 tmps).run Tryd.prog W = .ok (.tuple #[.agg #[x0,x1,x2,x3,x4,x5,x6],.agg #[y0,y1,y2,y3,y4,y5,y6],r]) W:=by
 have xc0 : W.cell? ⟨gx,0,none⟩ = some x0:=(blk_cell hx 0).trans rfl
 have xc1 : W.cell? ⟨gx,1,none⟩ = some x1:=(blk_cell hx 1).trans rfl
 have xc2 : W.cell? ⟨gx,2,none⟩ = some x2:=(blk_cell hx 2).trans rfl
 have xc3 : W.cell? ⟨gx,3,none⟩ = some x3:=(blk_cell hx 3).trans rfl
 have xc4 : W.cell? ⟨gx,4,none⟩ = some x4:=(blk_cell hx 4).trans rfl
 have xc5 : W.cell? ⟨gx,5,none⟩ = some x5:=(blk_cell hx 5).trans rfl
 have xc6 : W.cell? ⟨gx,6,none⟩ = some x6:=(blk_cell hx 6).trans rfl
 have yc0 : W.cell? ⟨gy,0,none⟩ = some y0:=(blk_cell hy 0).trans rfl
 have yc1 : W.cell? ⟨gy,1,none⟩ = some y1:=(blk_cell hy 1).trans rfl
 have yc2 : W.cell? ⟨gy,2,none⟩ = some y2:=(blk_cell hy 2).trans rfl
 have yc3 : W.cell? ⟨gy,3,none⟩ = some y3:=(blk_cell hy 3).trans rfl
 have yc4 : W.cell? ⟨gy,4,none⟩ = some y4:=(blk_cell hy 4).trans rfl
 have yc5 : W.cell? ⟨gy,5,none⟩ = some y5:=(blk_cell hy 5).trans rfl
 have yc6 : W.cell? ⟨gy,6,none⟩ = some y6:=(blk_cell hy 6).trans rfl
 simp [results,Tryd.results24,go_sem, *]
end Go.Proofs.YthhohbidjhcjeaaDoor.H
namespace Go.Proofs.YthhohbidjhcjeaaDoor.Pl
open Go.RowKit Go.Proofs.YthhohbidjhcjeaaDoorW.PrintWords Go.Proofs.YthhohbidjhcjeaaDoorW.PrintMore Go.Proofs.YthhohbidjhcjeaaDoor.Q Go.Proofs.YthhohbidjhcjeaaDoor.H

/-! ### texts in texts -/
/-! ### the rules -/
/-- What the program's rule makes of two patches: the first and the second as they are then, and whether they may be. -/
def ruleS (p q : S24) : S24 × S24 × Bool :=
 if p.f0 = 10 then
  if q.f0 = 10 then (p,q,apartL (pathsS p) (pathsS q))
  else if 7 ≤ q.f0 then (p,{ q with f1:=(carryS q.f1 p.f2 p.f1).1 },(carryS q.f1 p.f2 p.f1).2)
  else (p,q,apartL (pathsS p) (pathsS q))
 else if 7 ≤ p.f0 then
  if q.f0 = 10 then ({ p with f1:=(carryS p.f1 q.f1 q.f2).1 },q,(carryS p.f1 q.f1 q.f2).2)
  else if 7 ≤ q.f0 then bothS p q
  else (p,q,p.f1.toList != q.f1.toList)
 else
  if q.f0 = 10 then (p,q,apartL (pathsS p) (pathsS q))
  else if 7 ≤ q.f0 then (p,q,p.f1.toList != q.f1.toList)
  else (p,q,apartL (pathsS p) (pathsS q))
/-- Two patches the other way about. -/
def comm (p q : S24) : S24 × S24 × Bool :=
 if primB p = true ∧ primB q = true ∧ (ruleS p q).2.2 = true ∧ primB (ruleS p q).1 = true ∧ primB (ruleS p q).2.1 = true then ((ruleS p q).2.1,(ruleS p q).1,true) else (z24,z24,false)
/-- What is known of two patches that were commuted. -/
structure Yes (p q a b : S24) : Prop where
 hp : primB p = true
 hq : primB q = true
 ha : primB a = true
 hb : primB b = true
 r : ruleS p q = (b,a,true)
theorem comm_of {p q a b : S24} (h : Yes p q a b) : comm p q = (a,b,true):=by
 unfold comm
 rw [h.r]
 exact if_pos ⟨h.hp,h.hq,rfl,h.hb,h.ha⟩
theorem comm_or (p q : S24) : comm p q = (z24,z24,false) ∨ ∃ a b,Yes p q a b ∧ comm p q = (a,b,true):=by
 by_cases h : primB p = true ∧ primB q = true ∧ (ruleS p q).2.2 = true ∧ primB (ruleS p q).1 = true ∧ primB (ruleS p q).2.1 = true
 ·refine .inr ⟨(ruleS p q).2.1,(ruleS p q).1,⟨h.1,h.2.1,h.2.2.2.2,h.2.2.2.1,?_⟩,if_pos h⟩
  have e : ruleS p q = ((ruleS p q).1,(ruleS p q).2.1,(ruleS p q).2.2):=rfl
  rw [h.2.2.1] at e
  exact e
 ·exact .inl (if_neg h)
theorem prod3 {α β γ : Type} {a a' : α} {b b' : β} {c c' : γ} (h : (a,b,c) = (a',b',c')) : a = a' ∧ b = b' ∧ c = c':=by
 cases h
 exact ⟨rfl,rfl,rfl⟩
/-! ### what undoes them -/
/-! ### patches apart -/
/-! ### the reference -/
/-! ### sizes -/
theorem pieces_sum (c : UInt8) : ∀ l : List UInt8,((pieces c l).map (fun y => y.length + 1)).sum = l.length + 1
 | [] => rfl
 | b :: l => by
  have ih:=pieces_sum c l
  unfold pieces
  split
  ·rw [List.map_cons,List.sum_cons,ih,List.length_cons,List.length_nil]
   omega
  ·cases h : pieces c l with
   | nil => exact absurd h (pieces_ne c l)
   | cons p r =>
    rw [h,List.map_cons,List.sum_cons] at ih
    show ((((b :: p) :: r).map (fun y => y.length + 1)).sum) = _
    rw [List.map_cons,List.sum_cons,List.length_cons,List.length_cons]
    omega
theorem sum_le : ∀ L : List (List UInt8),(∀ y ∈ L,y.length ≤ 16) → (L.map (fun y => y.length + 1)).sum ≤ 17 * L.length
 | [],_ => Nat.le_refl _
 | y :: L,h => by
  have ih:=sum_le L (fun z hz => h z (List.mem_cons_of_mem _ hz))
  have h1:=h y (List.mem_cons_self ..)
  rw [List.map_cons,List.sum_cons,List.length_cons]
  omega
theorem part_size {s : ByteArray} (h : partB s = true) : s.size ≤ 16:=by
 unfold partB at h
 by_cases h0 : s.toList = []
 ·rw [if_pos h0] at h
  cases h
 ·rw [if_neg h0] at h
  by_cases h1 : s.size ≤ 16
  ·exact h1
  ·rw [if_neg h1] at h
   cases h
theorem right_size {s : ByteArray} (h : rightB s = true) : s.size ≤ 136:=by
 unfold rightB at h
 simp only [Bool.and_eq_true,List.all_eq_true,decide_eq_true_eq] at h
 have h1:=sum_le (pieces 47 s.data.toList) (fun y hy => by
  have:=part_size (h.1 y hy)
  have e : (⟨y.toArray⟩ : ByteArray).size = y.length:=by simp [ByteArray.size]
  omega)
 rw [pieces_sum,dlen] at h1
 omega
theorem prim_f1 {x : S24} (h : primB x = true) : x.f1.size ≤ 136:=by
 unfold primB at h
 simp only [Bool.and_eq_true] at h
 exact right_size h.1.1
theorem prim_f2 {x : S24} (h : primB x = true) (h10 : x.f0 = 10) : x.f2.size ≤ 136:=by
 unfold primB kindB at h
 rw [if_neg (by omega),if_neg (by omega)] at h
 by_cases h3 : x.f3.toList = ([] : List UInt8)
 ·rw [if_pos h3,if_pos h10] at h
  simp only [Bool.and_eq_true] at h
  exact right_size h.2.1
 ·rw [if_neg h3,Bool.and_false] at h
  cases h
theorem rule_keep {p q a b : S24} {r : Bool} (h : ruleS p q = (b,a,r)) : b = { p with f1:=b.f1,f4:=b.f4 } ∧ a = { q with f1:=a.f1,f4:=a.f4 }:=by
 unfold ruleS bothS at h
 repeat' split at h
 all_goals
  obtain ⟨rfl,rfl,-⟩:=prod3 h
  exact ⟨rfl,rfl⟩
theorem carry_size (s fr dst : ByteArray) : (carryS s fr dst).1.size ≤ dst.size + s.size:=by
 unfold carryS
 split
 ·show (dst ++ s.extract fr.size s.size).size ≤ _
  rw [ByteArray.size_append,ByteArray.size_extract]
  omega
 ·show s.size ≤ _
  omega
theorem both_f1 (p q : S24) : (bothS p q).1.f1 = p.f1 ∧ (bothS p q).2.1.f1 = q.f1:=by
 unfold bothS
 repeat' split
 all_goals exact ⟨rfl,rfl⟩
theorem rule_f1 {p q : S24} (hp : primB p = true) (hq : primB q = true) : (ruleS p q).1.f1.size ≤ 272 ∧ (ruleS p q).2.1.f1.size ≤ 272:=by
 have h1:=prim_f1 hp
 have h2:=prim_f1 hq
 have z : ∀ r : S24 × S24 × Bool,r.1.f1 = p.f1 ∧ r.2.1.f1 = q.f1 → r.1.f1.size ≤ 272 ∧ r.2.1.f1.size ≤ 272:=fun r h => by rw [h.1,h.2]; omega
 unfold ruleS
 by_cases cp : p.f0 = 10
 ·rw [if_pos cp]
  by_cases cq : q.f0 = 10
  ·rw [if_pos cq]
   exact z _ ⟨rfl,rfl⟩
  ·rw [if_neg cq]
   by_cases dq : 7 ≤ q.f0
   ·rw [if_pos dq]
    refine ⟨by show p.f1.size ≤ _; omega,?_⟩
    have:=carry_size q.f1 p.f2 p.f1
    show (carryS q.f1 p.f2 p.f1).1.size ≤ _
    omega
   ·rw [if_neg dq]
    exact z _ ⟨rfl,rfl⟩
 ·rw [if_neg cp]
  by_cases dp : 7 ≤ p.f0
  ·rw [if_pos dp]
   by_cases cq : q.f0 = 10
   ·rw [if_pos cq]
    refine ⟨?_,by show q.f1.size ≤ _; omega⟩
    have:=carry_size p.f1 q.f1 q.f2
    have:=prim_f2 hq cq
    show (carryS p.f1 q.f1 q.f2).1.size ≤ _
    omega
   ·rw [if_neg cq]
    by_cases dq : 7 ≤ q.f0
    ·rw [if_pos dq]
     exact z _ (both_f1 p q)
    ·rw [if_neg dq]
     exact z _ ⟨rfl,rfl⟩
  ·rw [if_neg dp]
   repeat' split
   all_goals exact z _ ⟨rfl,rfl⟩
theorem okp_rule {p q a b : S24} {r : Bool} (h : ruleS p q = (b,a,r)) (hp : primB p = true) (hq : primB q = true) (sp : Okp p) (sq : Okp q) : Okp b ∧ Okp a:=by
 have hf:=rule_f1 hp hq
 rw [h] at hf
 obtain ⟨h1,h2⟩:=rule_keep h
 obtain ⟨f1,f2⟩:=hf
 dsimp only at f1 f2
 constructor
 ·rw [h1]
  exact ⟨sp.ok,by show b.f1.size ≤ _; omega,sp.s2,sp.s3⟩
 ·rw [h2]
  exact ⟨sq.ok,by show a.f1.size ≤ _; omega,sq.s2,sq.s3⟩
theorem okp_yes {p q a b : S24} (h : Yes p q a b) (hp : Okp p) (hq : Okp q) : Okp a ∧ Okp b:=by
 obtain ⟨h1,h2⟩:=rule_keep h.r
 have ha:=prim_f1 h.ha
 have hb:=prim_f1 h.hb
 constructor
 ·rw [h2]
  exact ⟨hq.ok,by show a.f1.size ≤ _; omega,hq.s2,hq.s3⟩
 ·rw [h1]
  exact ⟨hp.ok,by show b.f1.size ≤ _; omega,hp.s2,hp.s3⟩
/-! ### several -/
/-- A patch, and several behind it, the other way about. -/
def pastS : S24 → List S24 → Option (List S24 × S24)
 | p,[] => some ([],p)
 | p,x :: l => if (comm p x).2.2 = true then (pastS (comm p x).2.1 l).map (fun r => ((comm p x).1 :: r.1,r.2)) else none
def past (p : S24) (l : List S24) : List S24 × S24 × Bool:=match pastS p l with
 | some r => (r.1,r.2,true)
 | none => ([],z24,false)
end Go.Proofs.YthhohbidjhcjeaaDoor.Pl
namespace Go.Proofs.YthhohbidjhcjeaaDoor.H
open Go.RowKit Go.Proofs.YthhohbidjhcjeaaDoorW.PrintWords Go.Proofs.YthhohbidjhcjeaaDoorW.PrintLast Go.Proofs.YthhohbidjhcjeaaDoorW.PrintMore
open Go.Proofs.YthhohbidjhcjeaaDoor.Q Go.Proofs.YthhohbidjhcjeaaDoor.Pl
theorem tkV {P : Program} {md : Region.Mode} {ops : Array Oper} {Q : Exit → Act → World → Prop} {oi : Oper} {v : Value} {fuel : Nat} {listed : Array Bool} {a : Act} {w : World} (i : Nat) (N : Option Tmp) (hi : ops[i]? = some oi) (hN : oi.dst = N)
  (hc : (Region.noSelect ops && Region.free md ops listed i && (Region.ready md ops listed).contains i) = true) (hw : Region.wanted oi (yielded ops a.tmps) = true) (hy : ∀ w,(execOp a.eval oi).run P w = .ok (.value v) w)
  (h : wpAnyH P md ops Q (fun _ => True) fuel (listed.setIfInBounds i true) (a.put N v) w) (hQ : ∀ c a w,Q (.panic c) (a.put N v) w → Q (.panic c) a w:=by exact fun _ _ _ h => h) : wpAnyH P md ops Q (fun _ => True) (fuel + 1) listed a w:=by
 subst hN
 simp only [Bool.and_eq_true] at hc
 exact wpAnyH_take hi hc.1.1 hc.1.2 hc.2 hQ (Or.inl ⟨hw,fun w _ => hy w⟩) trivial h
theorem tkS {P : Program} {md : Region.Mode} {ops : Array Oper} {Q : Exit → Act → World → Prop} {oi : Oper} {fuel : Nat} {listed : Array Bool} {a : Act} {w : World} (i : Nat) (N : Option Tmp) (hi : ops[i]? = some oi) (hN : oi.dst = N)
  (hc : (Region.noSelect ops && Region.free md ops listed i && (Region.ready md ops listed).contains i) = true) (hw : Region.wanted oi (yielded ops a.tmps) = false)
  (h : wpAnyH P md ops Q (fun _ => True) fuel (listed.setIfInBounds i true) (a.put N undef) w) (hQ : ∀ c a w,Q (.panic c) (a.put N undef) w → Q (.panic c) a w:=by exact fun _ _ _ h => h) : wpAnyH P md ops Q (fun _ => True) (fuel + 1) listed a w:=by
 subst hN
 simp only [Bool.and_eq_true] at hc
 exact wpAnyH_take hi hc.1.1 hc.1.2 hc.2 hQ (Or.inr ⟨hw,rfl⟩) trivial h
theorem wpAnyH_at {P : Program} {md : Region.Mode} {ops : Array Oper} {Q : Exit → Act → World → Prop} {S : World → Prop} {fuel : Nat} {l l' : Array Bool} {a : Act} {w : World} (h : l = l') (hh : wpAnyH P md ops Q S fuel l' a w) : wpAnyH P md ops Q S fuel l a w:=h ▸ hh
def CmPost (w : World) (a b : S24) (A5 : Option Addr) (c5 : Nat) (A6 : Option Addr) (c6 : Nat) (B5 : Option Addr) (d5 : Nat) (B6 : Option Addr) (d6 : Nat) : Bool → Bool → Bool → Ending → World → Prop
 | true,true,true,e,w' => e = .returned (.tuple #[.agg (cs a B5 d5 B6 d6),.agg (cs b A5 c5 A6 c6),.bool true]) ∧ Below w.heap.size w w'
 | _,_,_,e,w' => e = .returned (.tuple #[.agg zeroC,.agg zeroC,.bool false]) ∧ Below w.heap.size w w'
set_option maxHeartbeats 8000000 in
set_option maxRecDepth 100000 in
theorem comm_np (p q : S24) (A5 : Option Addr) (c5 : Nat) (A6 : Option Addr) (c6 : Nat) (B5 : Option Addr) (d5 : Nat) (B6 : Option Addr) (d6 : Nat) (w : World) (hp : Okp p) (rp : Rd w p A5 c5 A6 c6) (b1 : primB p = false) :
  Calls Tryd.prog 24 #[.agg (cs p A5 c5 A6 c6),.agg (cs q B5 d5 B6 d6)] w fun e w' => e = .returned (.tuple #[.agg zeroC,.agg zeroC,.bool false]) ∧ Below w.heap.size w w':=by
 have RP : ∀ cp cq W,St w cp cq W → Calls Tryd.prog 19 #[.agg (cs p A5 c5 A6 c6)] W fun e W' => e = .returned (.bool false) ∧ St w cp cq W':=fun cp cq W h => by
  have h2:=right_st p A5 c5 A6 c6 w W cp cq hp rp h
  rwa [b1] at h2
 go_enter Tryd.func24,Tryd.ntmps24
 go_wp2
 have hst:=(St.start w (cs p A5 c5 A6 c6) (cs q B5 d5 B6 d6)).drew
 refine wp_region_held_drew (S:=fun _ => True) (by kernel_rfl) trivial (fun _ => ?_)
 apply cutG (S:=St w (cs p A5 c5 A6 c6) (cs q B5 d5 B6 d6))
 ·exact fun tail => tail _ hst
 clear hst
 intro w1 hst
 obtain ⟨pc0,pc1,pc2,pc3,pc4,pc5,pc6⟩:=cells7 hst.p
 refine wpAnyH_ready (rs:=[0]) (by kernel_rfl) (by simp) (AllReadyH.cons rfl (fun K hK => ?_) AllReadyH.nil)
 go_simp
 refine hK.out _ _ trivial (fun _ => ?_)
 clear hK K
 clear pc0 pc1 pc2 pc3 pc4 pc5 pc6
 refine wpAnyH_ready (rs:=[1]) (by kernel_rfl) (by simp) (AllReadyH.cons rfl (fun K hK => ?_) AllReadyH.nil)
 go_simp
 refine (RP _ _ _ hst).mono ?_
 rintro e w1 ⟨rfl,hst⟩
 refine hK.out _ _ trivial (fun _ => ?_)
 clear hK K
 refine tkV (v:=?_) 2 (some 9) rfl rfl (by kernel_rfl) rfl (fun W' => ?_) ?_
 rotate_left
 ·go_simp; (try with_reducible rfl)
 simp only [Act.put,List.setIfInBounds_toArray,List.set_cons_zero,List.set_cons_succ]
 refine tkV (v:=?_) 3 (some 10) rfl rfl (by kernel_rfl) rfl (fun W' => ?_) ?_
 rotate_left
 ·go_simp; (try with_reducible rfl)
 simp only [Act.put,List.setIfInBounds_toArray,List.set_cons_zero,List.set_cons_succ]
 refine tkS 4 (some 11) rfl rfl (by kernel_rfl) rfl ?_
 simp only [Act.put,List.setIfInBounds_toArray,List.set_cons_zero,List.set_cons_succ]
 refine tkS 5 (some 12) rfl rfl (by kernel_rfl) rfl ?_
 simp only [Act.put,List.setIfInBounds_toArray,List.set_cons_zero,List.set_cons_succ]
 refine tkS 6 (some 13) rfl rfl (by kernel_rfl) rfl ?_
 simp only [Act.put,List.setIfInBounds_toArray,List.set_cons_zero,List.set_cons_succ]
 refine tkV (v:=?_) 7 (some 14) rfl rfl (by kernel_rfl) rfl (fun W' => ?_) ?_
 rotate_left
 ·go_simp; (try with_reducible rfl)
 simp only [Act.put,List.setIfInBounds_toArray,List.set_cons_zero,List.set_cons_succ]
 refine tkV (v:=?_) 8 (some 15) rfl rfl (by kernel_rfl) rfl (fun W' => ?_) ?_
 rotate_left
 ·go_simp; (try with_reducible rfl)
 simp only [Act.put,List.setIfInBounds_toArray,List.set_cons_zero,List.set_cons_succ]
 refine tkS 9 (some 16) rfl rfl (by kernel_rfl) rfl ?_
 simp only [Act.put,List.setIfInBounds_toArray,List.set_cons_zero,List.set_cons_succ]
 refine tkS 10 (some 17) rfl rfl (by kernel_rfl) rfl ?_
 simp only [Act.put,List.setIfInBounds_toArray,List.set_cons_zero,List.set_cons_succ]
 refine tkS 11 (some 18) rfl rfl (by kernel_rfl) rfl ?_
 simp only [Act.put,List.setIfInBounds_toArray,List.set_cons_zero,List.set_cons_succ]
 refine tkS 12 (some 19) rfl rfl (by kernel_rfl) rfl ?_
 simp only [Act.put,List.setIfInBounds_toArray,List.set_cons_zero,List.set_cons_succ]
 refine tkS 13 (some 20) rfl rfl (by kernel_rfl) rfl ?_
 simp only [Act.put,List.setIfInBounds_toArray,List.set_cons_zero,List.set_cons_succ]
 refine tkS 14 (some 21) rfl rfl (by kernel_rfl) rfl ?_
 simp only [Act.put,List.setIfInBounds_toArray,List.set_cons_zero,List.set_cons_succ]
 refine tkS 15 (some 22) rfl rfl (by kernel_rfl) rfl ?_
 simp only [Act.put,List.setIfInBounds_toArray,List.set_cons_zero,List.set_cons_succ]
 refine tkS 16 (some 23) rfl rfl (by kernel_rfl) rfl ?_
 simp only [Act.put,List.setIfInBounds_toArray,List.set_cons_zero,List.set_cons_succ]
 refine tkS 17 (some 24) rfl rfl (by kernel_rfl) rfl ?_
 simp only [Act.put,List.setIfInBounds_toArray,List.set_cons_zero,List.set_cons_succ]
 refine tkV (v:=?_) 18 (some 25) rfl rfl (by kernel_rfl) rfl (fun W' => ?_) ?_
 rotate_left
 ·go_simp; (try with_reducible rfl)
 simp only [Act.put,List.setIfInBounds_toArray,List.set_cons_zero,List.set_cons_succ]
 refine tkV (v:=?_) 19 (some 26) rfl rfl (by kernel_rfl) rfl (fun W' => ?_) ?_
 rotate_left
 ·go_simp; (try with_reducible rfl)
 simp only [Act.put,List.setIfInBounds_toArray,List.set_cons_zero,List.set_cons_succ]
 refine tkS 20 (some 27) rfl rfl (by kernel_rfl) rfl ?_
 simp only [Act.put,List.setIfInBounds_toArray,List.set_cons_zero,List.set_cons_succ]
 refine tkS 21 (some 28) rfl rfl (by kernel_rfl) rfl ?_
 simp only [Act.put,List.setIfInBounds_toArray,List.set_cons_zero,List.set_cons_succ]
 refine tkS 22 (some 29) rfl rfl (by kernel_rfl) rfl ?_
 simp only [Act.put,List.setIfInBounds_toArray,List.set_cons_zero,List.set_cons_succ]
 refine tkV (v:=?_) 23 (some 30) rfl rfl (by kernel_rfl) rfl (fun W' => ?_) ?_
 rotate_left
 ·go_simp; (try with_reducible rfl)
 simp only [Act.put,List.setIfInBounds_toArray,List.set_cons_zero,List.set_cons_succ]
 refine tkV (v:=?_) 24 (some 31) rfl rfl (by kernel_rfl) rfl (fun W' => ?_) ?_
 rotate_left
 ·go_simp; (try with_reducible rfl)
 simp only [Act.put,List.setIfInBounds_toArray,List.set_cons_zero,List.set_cons_succ]
 refine tkS 25 (some 32) rfl rfl (by kernel_rfl) rfl ?_
 simp only [Act.put,List.setIfInBounds_toArray,List.set_cons_zero,List.set_cons_succ]
 refine tkS 26 (some 33) rfl rfl (by kernel_rfl) rfl ?_
 simp only [Act.put,List.setIfInBounds_toArray,List.set_cons_zero,List.set_cons_succ]
 refine tkS 27 (some 34) rfl rfl (by kernel_rfl) rfl ?_
 simp only [Act.put,List.setIfInBounds_toArray,List.set_cons_zero,List.set_cons_succ]
 refine tkV (v:=?_) 28 (some 35) rfl rfl (by kernel_rfl) rfl (fun W' => ?_) ?_
 rotate_left
 ·go_simp; (try with_reducible rfl)
 simp only [Act.put,List.setIfInBounds_toArray,List.set_cons_zero,List.set_cons_succ]
 refine wpAnyH_done (by kernel_rfl) ?_ _
 obtain ⟨xc0,xc1,xc2,xc3,xc4,xc5,xc6⟩:=cells7 hst.x
 obtain ⟨yc0,yc1,yc2,yc3,yc4,yc5,yc6⟩:=cells7 hst.y
 obtain ⟨pf0,pf1,pf2,pf3,pf4,pf5,pf6⟩:=frozen7 hst.p
 obtain ⟨qf0,qf1,qf2,qf3,qf4,qf5,qf6⟩:=frozen7 hst.q
 obtain ⟨xf0,xf1,xf2,xf3,xf4,xf5,xf6⟩:=frozen7 hst.x
 obtain ⟨yf0,yf1,yf2,yf3,yf4,yf5,yf6⟩:=frozen7 hst.y
 clear RP
 go_wp2
 all_goals
  refine bodyPost_ret (ret24 (gx:=w.heap.size + 1 + 1) (gy:=w.heap.size + 1 + 1 + 1) rfl rfl rfl ?_ ?_) rfl ⟨rfl,?_⟩
  ·exact ((keep7 (by omega) _ _ _ _ _ _ _).trans (set7 hst.x rfl _ _ _ _ _ _ _))
  ·exact (set7 ((keep7 (by omega) _ _ _ _ _ _ _).trans hst.y) rfl _ _ _ _ _ _ _)
  ·exact (below7 (below7 hst.below (by omega) _ _ _ _ _ _ _) (by omega) _ _ _ _ _ _ _)
set_option maxHeartbeats 8000000 in
set_option maxRecDepth 100000 in
theorem comm_nq (p q : S24) (A5 : Option Addr) (c5 : Nat) (A6 : Option Addr) (c6 : Nat) (B5 : Option Addr) (d5 : Nat) (B6 : Option Addr) (d6 : Nat) (w : World) (hp : Okp p) (rp : Rd w p A5 c5 A6 c6) (b1 : primB p = true) (hq : Okp q) (rq : Rd w q B5 d5 B6 d6) (b2 : primB q = false) :
  Calls Tryd.prog 24 #[.agg (cs p A5 c5 A6 c6),.agg (cs q B5 d5 B6 d6)] w fun e w' => e = .returned (.tuple #[.agg zeroC,.agg zeroC,.bool false]) ∧ Below w.heap.size w w':=by
 have RP : ∀ cp cq W,St w cp cq W → Calls Tryd.prog 19 #[.agg (cs p A5 c5 A6 c6)] W fun e W' => e = .returned (.bool true) ∧ St w cp cq W':=fun cp cq W h => by
  have h2:=right_st p A5 c5 A6 c6 w W cp cq hp rp h
  rwa [b1] at h2
 have RQ : ∀ cp cq W,St w cp cq W → Calls Tryd.prog 19 #[.agg (cs q B5 d5 B6 d6)] W fun e W' => e = .returned (.bool false) ∧ St w cp cq W':=fun cp cq W h => by
  have h2:=right_st q B5 d5 B6 d6 w W cp cq hq rq h
  rwa [b2] at h2
 go_enter Tryd.func24,Tryd.ntmps24
 go_wp2
 have hst:=(St.start w (cs p A5 c5 A6 c6) (cs q B5 d5 B6 d6)).drew
 refine wp_region_held_drew (S:=fun _ => True) (by kernel_rfl) trivial (fun _ => ?_)
 apply cutG (S:=St w (cs p A5 c5 A6 c6) (cs q B5 d5 B6 d6))
 ·exact fun tail => tail _ hst
 clear hst
 intro w1 hst
 obtain ⟨pc0,pc1,pc2,pc3,pc4,pc5,pc6⟩:=cells7 hst.p
 refine wpAnyH_ready (rs:=[0]) (by kernel_rfl) (by simp) (AllReadyH.cons rfl (fun K hK => ?_) AllReadyH.nil)
 go_simp
 refine hK.out _ _ trivial (fun _ => ?_)
 clear hK K
 clear pc0 pc1 pc2 pc3 pc4 pc5 pc6
 refine wpAnyH_ready (rs:=[1]) (by kernel_rfl) (by simp) (AllReadyH.cons rfl (fun K hK => ?_) AllReadyH.nil)
 go_simp
 refine (RP _ _ _ hst).mono ?_
 rintro e w1 ⟨rfl,hst⟩
 refine hK.out _ _ trivial (fun _ => ?_)
 clear hK K
 refine tkV (v:=?_) 2 (some 9) rfl rfl (by kernel_rfl) rfl (fun W' => ?_) ?_
 rotate_left
 ·go_simp; (try with_reducible rfl)
 simp only [Act.put,List.setIfInBounds_toArray,List.set_cons_zero,List.set_cons_succ]
 refine tkV (v:=?_) 3 (some 10) rfl rfl (by kernel_rfl) rfl (fun W' => ?_) ?_
 rotate_left
 ·go_simp; (try with_reducible rfl)
 simp only [Act.put,List.setIfInBounds_toArray,List.set_cons_zero,List.set_cons_succ]
 obtain ⟨qc0,qc1,qc2,qc3,qc4,qc5,qc6⟩:=cells7 hst.q
 refine wpAnyH_ready (rs:=[4]) (by kernel_rfl) (by simp) (AllReadyH.cons rfl (fun K hK => ?_) AllReadyH.nil)
 go_simp
 refine hK.out _ _ trivial (fun _ => ?_)
 clear hK K
 clear qc0 qc1 qc2 qc3 qc4 qc5 qc6
 refine wpAnyH_ready (rs:=[5]) (by kernel_rfl) (by simp) (AllReadyH.cons rfl (fun K hK => ?_) AllReadyH.nil)
 go_simp
 refine (RQ _ _ _ hst).mono ?_
 rintro e w1 ⟨rfl,hst⟩
 refine hK.out _ _ trivial (fun _ => ?_)
 clear hK K
 refine tkV (v:=?_) 6 (some 13) rfl rfl (by kernel_rfl) rfl (fun W' => ?_) ?_
 rotate_left
 ·go_simp; (try with_reducible rfl)
 simp only [Act.put,List.setIfInBounds_toArray,List.set_cons_zero,List.set_cons_succ]
 refine tkV (v:=?_) 7 (some 14) rfl rfl (by kernel_rfl) rfl (fun W' => ?_) ?_
 rotate_left
 ·go_simp; (try with_reducible rfl)
 simp only [Act.put,List.setIfInBounds_toArray,List.set_cons_zero,List.set_cons_succ]
 refine tkV (v:=?_) 8 (some 15) rfl rfl (by kernel_rfl) rfl (fun W' => ?_) ?_
 rotate_left
 ·go_simp; (try with_reducible rfl)
 simp only [Act.put,List.setIfInBounds_toArray,List.set_cons_zero,List.set_cons_succ]
 refine tkS 9 (some 16) rfl rfl (by kernel_rfl) rfl ?_
 simp only [Act.put,List.setIfInBounds_toArray,List.set_cons_zero,List.set_cons_succ]
 refine tkS 10 (some 17) rfl rfl (by kernel_rfl) rfl ?_
 simp only [Act.put,List.setIfInBounds_toArray,List.set_cons_zero,List.set_cons_succ]
 refine tkS 11 (some 18) rfl rfl (by kernel_rfl) rfl ?_
 simp only [Act.put,List.setIfInBounds_toArray,List.set_cons_zero,List.set_cons_succ]
 refine tkS 12 (some 19) rfl rfl (by kernel_rfl) rfl ?_
 simp only [Act.put,List.setIfInBounds_toArray,List.set_cons_zero,List.set_cons_succ]
 refine tkS 13 (some 20) rfl rfl (by kernel_rfl) rfl ?_
 simp only [Act.put,List.setIfInBounds_toArray,List.set_cons_zero,List.set_cons_succ]
 refine tkS 14 (some 21) rfl rfl (by kernel_rfl) rfl ?_
 simp only [Act.put,List.setIfInBounds_toArray,List.set_cons_zero,List.set_cons_succ]
 refine tkS 15 (some 22) rfl rfl (by kernel_rfl) rfl ?_
 simp only [Act.put,List.setIfInBounds_toArray,List.set_cons_zero,List.set_cons_succ]
 refine tkS 16 (some 23) rfl rfl (by kernel_rfl) rfl ?_
 simp only [Act.put,List.setIfInBounds_toArray,List.set_cons_zero,List.set_cons_succ]
 refine tkS 17 (some 24) rfl rfl (by kernel_rfl) rfl ?_
 simp only [Act.put,List.setIfInBounds_toArray,List.set_cons_zero,List.set_cons_succ]
 refine tkV (v:=?_) 18 (some 25) rfl rfl (by kernel_rfl) rfl (fun W' => ?_) ?_
 rotate_left
 ·go_simp; (try with_reducible rfl)
 simp only [Act.put,List.setIfInBounds_toArray,List.set_cons_zero,List.set_cons_succ]
 refine tkV (v:=?_) 19 (some 26) rfl rfl (by kernel_rfl) rfl (fun W' => ?_) ?_
 rotate_left
 ·go_simp; (try with_reducible rfl)
 simp only [Act.put,List.setIfInBounds_toArray,List.set_cons_zero,List.set_cons_succ]
 refine tkS 20 (some 27) rfl rfl (by kernel_rfl) rfl ?_
 simp only [Act.put,List.setIfInBounds_toArray,List.set_cons_zero,List.set_cons_succ]
 refine tkS 21 (some 28) rfl rfl (by kernel_rfl) rfl ?_
 simp only [Act.put,List.setIfInBounds_toArray,List.set_cons_zero,List.set_cons_succ]
 refine tkS 22 (some 29) rfl rfl (by kernel_rfl) rfl ?_
 simp only [Act.put,List.setIfInBounds_toArray,List.set_cons_zero,List.set_cons_succ]
 refine tkV (v:=?_) 23 (some 30) rfl rfl (by kernel_rfl) rfl (fun W' => ?_) ?_
 rotate_left
 ·go_simp; (try with_reducible rfl)
 simp only [Act.put,List.setIfInBounds_toArray,List.set_cons_zero,List.set_cons_succ]
 refine tkV (v:=?_) 24 (some 31) rfl rfl (by kernel_rfl) rfl (fun W' => ?_) ?_
 rotate_left
 ·go_simp; (try with_reducible rfl)
 simp only [Act.put,List.setIfInBounds_toArray,List.set_cons_zero,List.set_cons_succ]
 refine tkS 25 (some 32) rfl rfl (by kernel_rfl) rfl ?_
 simp only [Act.put,List.setIfInBounds_toArray,List.set_cons_zero,List.set_cons_succ]
 refine tkS 26 (some 33) rfl rfl (by kernel_rfl) rfl ?_
 simp only [Act.put,List.setIfInBounds_toArray,List.set_cons_zero,List.set_cons_succ]
 refine tkS 27 (some 34) rfl rfl (by kernel_rfl) rfl ?_
 simp only [Act.put,List.setIfInBounds_toArray,List.set_cons_zero,List.set_cons_succ]
 refine tkV (v:=?_) 28 (some 35) rfl rfl (by kernel_rfl) rfl (fun W' => ?_) ?_
 rotate_left
 ·go_simp; (try with_reducible rfl)
 simp only [Act.put,List.setIfInBounds_toArray,List.set_cons_zero,List.set_cons_succ]
 refine wpAnyH_done (by kernel_rfl) ?_ _
 obtain ⟨xc0,xc1,xc2,xc3,xc4,xc5,xc6⟩:=cells7 hst.x
 obtain ⟨yc0,yc1,yc2,yc3,yc4,yc5,yc6⟩:=cells7 hst.y
 obtain ⟨pf0,pf1,pf2,pf3,pf4,pf5,pf6⟩:=frozen7 hst.p
 obtain ⟨qf0,qf1,qf2,qf3,qf4,qf5,qf6⟩:=frozen7 hst.q
 obtain ⟨xf0,xf1,xf2,xf3,xf4,xf5,xf6⟩:=frozen7 hst.x
 obtain ⟨yf0,yf1,yf2,yf3,yf4,yf5,yf6⟩:=frozen7 hst.y
 clear RP RQ
 go_wp2
 all_goals
  refine bodyPost_ret (ret24 (gx:=w.heap.size + 1 + 1) (gy:=w.heap.size + 1 + 1 + 1) rfl rfl rfl ?_ ?_) rfl ⟨rfl,?_⟩
  ·exact ((keep7 (by omega) _ _ _ _ _ _ _).trans (set7 hst.x rfl _ _ _ _ _ _ _))
  ·exact (set7 ((keep7 (by omega) _ _ _ _ _ _ _).trans hst.y) rfl _ _ _ _ _ _ _)
  ·exact (below7 (below7 hst.below (by omega) _ _ _ _ _ _ _) (by omega) _ _ _ _ _ _ _)
set_option maxHeartbeats 8000000 in
set_option maxRecDepth 100000 in
theorem comm_in (p q p2 q2 : S24) (A5 : Option Addr) (c5 : Nat) (A6 : Option Addr) (c6 : Nat) (B5 : Option Addr) (d5 : Nat) (B6 : Option Addr) (d6 : Nat) (w : World) (r x3 x4 : Bool) (hp : Okp p) (rp : Rd w p A5 c5 A6 c6) (b1 : primB p = true) (hq : Okp q) (rq : Rd w q B5 d5 B6 d6) (b2 : primB q = true) (hp2 : Okp p2) (rp2 : Rd w p2 A5 c5 A6 c6) (b3 : primB p2 = x3) (hq2 : Okp q2) (rq2 : Rd w q2 B5 d5 B6 d6) (b4 : primB q2 = x4) (n : Nat) (en : ∀ args w,(callFunc n args).run Tryd.prog w = .ok (.enter n args) w) (row : Array Value) (h70 : ∀ W,(Instr.index 70 (.agg rulesV) (.int .i64 (classS p))).run Tryd.prog W = .ok (.agg row) W) (h69 : ∀ W,(Instr.index 69 (.agg row) (.int .i64 (classS q))).run Tryd.prog W = .ok (.func (.func n) #[] #[]) W)
  (hrule : ∀ W,St w (cs p A5 c5 A6 c6) (cs q B5 d5 B6 d6) W → Calls Tryd.prog n #[.pointer (some ⟨w.heap.size,0,none⟩),.pointer (some ⟨w.heap.size + 1,0,none⟩)] W fun e W' => e = .returned (.bool r) ∧ St w (cs p2 A5 c5 A6 c6) (cs q2 B5 d5 B6 d6) W') :
  Calls Tryd.prog 24 #[.agg (cs p A5 c5 A6 c6),.agg (cs q B5 d5 B6 d6)] w fun e w' => CmPost w q2 p2 A5 c5 A6 c6 B5 d5 B6 d6 r x3 x4 e w':=by
 have RP : ∀ cp cq W,St w cp cq W → Calls Tryd.prog 19 #[.agg (cs p A5 c5 A6 c6)] W fun e W' => e = .returned (.bool true) ∧ St w cp cq W':=fun cp cq W h => by
  have h2:=right_st p A5 c5 A6 c6 w W cp cq hp rp h
  rwa [b1] at h2
 have RQ : ∀ cp cq W,St w cp cq W → Calls Tryd.prog 19 #[.agg (cs q B5 d5 B6 d6)] W fun e W' => e = .returned (.bool true) ∧ St w cp cq W':=fun cp cq W h => by
  have h2:=right_st q B5 d5 B6 d6 w W cp cq hq rq h
  rwa [b2] at h2
 have RP2 : ∀ cp cq W,St w cp cq W → Calls Tryd.prog 19 #[.agg (cs p2 A5 c5 A6 c6)] W fun e W' => e = .returned (.bool x3) ∧ St w cp cq W':=fun cp cq W h => by
  have h2:=right_st p2 A5 c5 A6 c6 w W cp cq hp2 rp2 h
  rwa [b3] at h2
 have RQ2 : ∀ cp cq W,St w cp cq W → Calls Tryd.prog 19 #[.agg (cs q2 B5 d5 B6 d6)] W fun e W' => e = .returned (.bool x4) ∧ St w cp cq W':=fun cp cq W h => by
  have h2:=right_st q2 B5 d5 B6 d6 w W cp cq hq2 rq2 h
  rwa [b4] at h2
 go_enter Tryd.func24,Tryd.ntmps24
 go_wp2
 have hst:=(St.start w (cs p A5 c5 A6 c6) (cs q B5 d5 B6 d6)).drew
 refine wp_region_held_drew (S:=fun _ => True) (by kernel_rfl) trivial (fun _ => ?_)
 apply cutG (S:=St w (cs p A5 c5 A6 c6) (cs q B5 d5 B6 d6))
 ·exact fun tail => tail _ hst
 clear hst
 intro w1 hst
 apply cutG (S:=St w (cs p A5 c5 A6 c6) (cs q B5 d5 B6 d6))
 ·intro tail
  obtain ⟨pc0,pc1,pc2,pc3,pc4,pc5,pc6⟩:=cells7 hst.p
  refine wpAnyH_ready (rs:=[0]) (by kernel_rfl) (by simp) (AllReadyH.cons rfl (fun K hK => ?_) AllReadyH.nil)
  go_simp
  refine hK.out _ _ trivial (fun _ => ?_)
  clear hK K
  clear pc0 pc1 pc2 pc3 pc4 pc5 pc6
  refine wpAnyH_ready (rs:=[1]) (by kernel_rfl) (by simp) (AllReadyH.cons rfl (fun K hK => ?_) AllReadyH.nil)
  go_simp
  refine (RP _ _ _ hst).mono ?_
  rintro e w1 ⟨rfl,hst⟩
  refine hK.out _ _ trivial (fun _ => ?_)
  clear hK K
  refine tkV (v:=?_) 2 (some 9) rfl rfl (by kernel_rfl) rfl (fun W' => ?_) ?_
  rotate_left
  ·go_simp; (try with_reducible rfl)
  simp only [Act.put,List.setIfInBounds_toArray,List.set_cons_zero,List.set_cons_succ]
  refine tkV (v:=?_) 3 (some 10) rfl rfl (by kernel_rfl) rfl (fun W' => ?_) ?_
  rotate_left
  ·go_simp; (try with_reducible rfl)
  simp only [Act.put,List.setIfInBounds_toArray,List.set_cons_zero,List.set_cons_succ]
  obtain ⟨qc0,qc1,qc2,qc3,qc4,qc5,qc6⟩:=cells7 hst.q
  refine wpAnyH_ready (rs:=[4]) (by kernel_rfl) (by simp) (AllReadyH.cons rfl (fun K hK => ?_) AllReadyH.nil)
  go_simp
  refine hK.out _ _ trivial (fun _ => ?_)
  clear hK K
  clear qc0 qc1 qc2 qc3 qc4 qc5 qc6
  refine wpAnyH_ready (rs:=[5]) (by kernel_rfl) (by simp) (AllReadyH.cons rfl (fun K hK => ?_) AllReadyH.nil)
  go_simp
  refine (RQ _ _ _ hst).mono ?_
  rintro e w1 ⟨rfl,hst⟩
  refine hK.out _ _ trivial (fun _ => ?_)
  clear hK K
  refine tkV (v:=?_) 6 (some 13) rfl rfl (by kernel_rfl) rfl (fun W' => ?_) ?_
  rotate_left
  ·go_simp; (try with_reducible rfl)
  simp only [Act.put,List.setIfInBounds_toArray,List.set_cons_zero,List.set_cons_succ]
  refine tkV (v:=?_) 7 (some 14) rfl rfl (by kernel_rfl) rfl (fun W' => ?_) ?_
  rotate_left
  ·go_simp; (try with_reducible rfl)
  simp only [Act.put,List.setIfInBounds_toArray,List.set_cons_zero,List.set_cons_succ]
  refine tkV (v:=?_) 8 (some 15) rfl rfl (by kernel_rfl) rfl (fun W' => ?_) ?_
  rotate_left
  ·go_simp; (try with_reducible rfl)
  simp only [Act.put,List.setIfInBounds_toArray,List.set_cons_zero,List.set_cons_succ]
  obtain ⟨pc0,pc1,pc2,pc3,pc4,pc5,pc6⟩:=cells7 hst.p
  obtain ⟨qc0,qc1,qc2,qc3,qc4,qc5,qc6⟩:=cells7 hst.q
  refine wpAnyH_ready (rs:=[9,10,13]) (by kernel_rfl) (by simp) (AllReadyH.cons rfl (fun K hK => ?_) (AllReadyH.cons rfl (fun K hK => ?_) (AllReadyH.cons rfl (fun K hK => ?_) AllReadyH.nil)))
  ·skip
   go_simp
   refine (rules_st w _ _ _ hst).mono ?_
   rintro e w1 ⟨rfl,hst⟩
   refine hK.out _ _ trivial (fun _ => ?_)
   clear hK K
   clear pc0 pc1 pc2 pc3 pc4 pc5 pc6 qc0 qc1 qc2 qc3 qc4 qc5 qc6
   obtain ⟨pc0,pc1,pc2,pc3,pc4,pc5,pc6⟩:=cells7 hst.p
   obtain ⟨qc0,qc1,qc2,qc3,qc4,qc5,qc6⟩:=cells7 hst.q
   refine wpAnyH_ready (rs:=[10,13]) (by kernel_rfl) (by simp) (AllReadyH.cons rfl (fun K hK => ?_) (AllReadyH.cons rfl (fun K hK => ?_) AllReadyH.nil))
   ·skip
    go_simp
    refine hK.out _ _ trivial (fun _ => ?_)
    clear hK K
    clear pc0 pc1 pc2 pc3 pc4 pc5 pc6 qc0 qc1 qc2 qc3 qc4 qc5 qc6
    obtain ⟨qc0,qc1,qc2,qc3,qc4,qc5,qc6⟩:=cells7 hst.q
    refine wpAnyH_ready (rs:=[11,13]) (by kernel_rfl) (by simp) (AllReadyH.cons rfl (fun K hK => ?_) (AllReadyH.cons rfl (fun K hK => ?_) AllReadyH.nil))
    ·skip
     go_simp
     refine (class_st p A5 c5 A6 c6 w _ _ _ rp hst).mono ?_
     rintro e w1 ⟨rfl,hst⟩
     refine hK.out _ _ trivial (fun _ => ?_)
     clear hK K
     clear qc0 qc1 qc2 qc3 qc4 qc5 qc6
     refine tkV (v:=?_) 12 (some 19) rfl rfl (by kernel_rfl) rfl (fun W' => ?_) ?_
     rotate_left
     ·go_simp; (try with_reducible rfl)
     simp only [Act.put,List.setIfInBounds_toArray,List.set_cons_zero,List.set_cons_succ]
     obtain ⟨qc0,qc1,qc2,qc3,qc4,qc5,qc6⟩:=cells7 hst.q
     refine wpAnyH_ready (rs:=[13]) (by kernel_rfl) (by simp) (AllReadyH.cons rfl (fun K hK => ?_) AllReadyH.nil)
     go_simp
     refine hK.out _ _ trivial (fun _ => ?_)
     clear hK K
     clear qc0 qc1 qc2 qc3 qc4 qc5 qc6
     refine wpAnyH_ready (rs:=[14]) (by kernel_rfl) (by simp) (AllReadyH.cons rfl (fun K hK => ?_) AllReadyH.nil)
     go_simp
     refine (class_st q B5 d5 B6 d6 w _ _ _ rq hst).mono ?_
     rintro e w1 ⟨rfl,hst⟩
     refine hK.out _ _ trivial (fun _ => ?_)
     clear hK K
     refine tkV (v:=?_) 15 (some 22) rfl rfl (by kernel_rfl) rfl (fun W' => ?_) ?_
     rotate_left
     ·go_simp; (try with_reducible rfl)
     simp only [Act.put,List.setIfInBounds_toArray,List.set_cons_zero,List.set_cons_succ]
     exact wpAnyH_at (l':=#[true,true,true,true,true,true,true,true,true,true,true,true,true,true,true,true,false,false,false,false,false,false,false,false,false,false,false,false,false]) (by kernel_rfl) (tail _ hst)
    ·skip
     go_simp
     refine hK.out _ _ trivial (fun _ => ?_)
     clear hK K
     clear qc0 qc1 qc2 qc3 qc4 qc5 qc6
     refine wpAnyH_ready (rs:=[11]) (by kernel_rfl) (by simp) (AllReadyH.cons rfl (fun K hK => ?_) AllReadyH.nil)
     go_simp
     refine (class_st p A5 c5 A6 c6 w _ _ _ rp hst).mono ?_
     rintro e w1 ⟨rfl,hst⟩
     refine hK.out _ _ trivial (fun _ => ?_)
     clear hK K
     refine tkV (v:=?_) 12 (some 19) rfl rfl (by kernel_rfl) rfl (fun W' => ?_) ?_
     rotate_left
     ·go_simp; (try with_reducible rfl)
     simp only [Act.put,List.setIfInBounds_toArray,List.set_cons_zero,List.set_cons_succ]
     refine wpAnyH_ready (rs:=[14]) (by kernel_rfl) (by simp) (AllReadyH.cons rfl (fun K hK => ?_) AllReadyH.nil)
     go_simp
     refine (class_st q B5 d5 B6 d6 w _ _ _ rq hst).mono ?_
     rintro e w1 ⟨rfl,hst⟩
     refine hK.out _ _ trivial (fun _ => ?_)
     clear hK K
     refine tkV (v:=?_) 15 (some 22) rfl rfl (by kernel_rfl) rfl (fun W' => ?_) ?_
     rotate_left
     ·go_simp; (try with_reducible rfl)
     simp only [Act.put,List.setIfInBounds_toArray,List.set_cons_zero,List.set_cons_succ]
     exact wpAnyH_at (l':=#[true,true,true,true,true,true,true,true,true,true,true,true,true,true,true,true,false,false,false,false,false,false,false,false,false,false,false,false,false]) (by kernel_rfl) (tail _ hst)
   ·skip
    go_simp
    refine hK.out _ _ trivial (fun _ => ?_)
    clear hK K
    clear pc0 pc1 pc2 pc3 pc4 pc5 pc6 qc0 qc1 qc2 qc3 qc4 qc5 qc6
    obtain ⟨pc0,pc1,pc2,pc3,pc4,pc5,pc6⟩:=cells7 hst.p
    refine wpAnyH_ready (rs:=[10]) (by kernel_rfl) (by simp) (AllReadyH.cons rfl (fun K hK => ?_) AllReadyH.nil)
    go_simp
    refine hK.out _ _ trivial (fun _ => ?_)
    clear hK K
    clear pc0 pc1 pc2 pc3 pc4 pc5 pc6
    refine wpAnyH_ready (rs:=[11]) (by kernel_rfl) (by simp) (AllReadyH.cons rfl (fun K hK => ?_) AllReadyH.nil)
    go_simp
    refine (class_st p A5 c5 A6 c6 w _ _ _ rp hst).mono ?_
    rintro e w1 ⟨rfl,hst⟩
    refine hK.out _ _ trivial (fun _ => ?_)
    clear hK K
    refine tkV (v:=?_) 12 (some 19) rfl rfl (by kernel_rfl) rfl (fun W' => ?_) ?_
    rotate_left
    ·go_simp; (try with_reducible rfl)
    simp only [Act.put,List.setIfInBounds_toArray,List.set_cons_zero,List.set_cons_succ]
    refine wpAnyH_ready (rs:=[14]) (by kernel_rfl) (by simp) (AllReadyH.cons rfl (fun K hK => ?_) AllReadyH.nil)
    go_simp
    refine (class_st q B5 d5 B6 d6 w _ _ _ rq hst).mono ?_
    rintro e w1 ⟨rfl,hst⟩
    refine hK.out _ _ trivial (fun _ => ?_)
    clear hK K
    refine tkV (v:=?_) 15 (some 22) rfl rfl (by kernel_rfl) rfl (fun W' => ?_) ?_
    rotate_left
    ·go_simp; (try with_reducible rfl)
    simp only [Act.put,List.setIfInBounds_toArray,List.set_cons_zero,List.set_cons_succ]
    exact wpAnyH_at (l':=#[true,true,true,true,true,true,true,true,true,true,true,true,true,true,true,true,false,false,false,false,false,false,false,false,false,false,false,false,false]) (by kernel_rfl) (tail _ hst)
  ·skip
   go_simp
   refine hK.out _ _ trivial (fun _ => ?_)
   clear hK K
   clear pc0 pc1 pc2 pc3 pc4 pc5 pc6 qc0 qc1 qc2 qc3 qc4 qc5 qc6
   obtain ⟨qc0,qc1,qc2,qc3,qc4,qc5,qc6⟩:=cells7 hst.q
   refine wpAnyH_ready (rs:=[9,13]) (by kernel_rfl) (by simp) (AllReadyH.cons rfl (fun K hK => ?_) (AllReadyH.cons rfl (fun K hK => ?_) AllReadyH.nil))
   ·skip
    go_simp
    refine (rules_st w _ _ _ hst).mono ?_
    rintro e w1 ⟨rfl,hst⟩
    refine hK.out _ _ trivial (fun _ => ?_)
    clear hK K
    clear qc0 qc1 qc2 qc3 qc4 qc5 qc6
    obtain ⟨qc0,qc1,qc2,qc3,qc4,qc5,qc6⟩:=cells7 hst.q
    refine wpAnyH_ready (rs:=[11,13]) (by kernel_rfl) (by simp) (AllReadyH.cons rfl (fun K hK => ?_) (AllReadyH.cons rfl (fun K hK => ?_) AllReadyH.nil))
    ·skip
     go_simp
     refine (class_st p A5 c5 A6 c6 w _ _ _ rp hst).mono ?_
     rintro e w1 ⟨rfl,hst⟩
     refine hK.out _ _ trivial (fun _ => ?_)
     clear hK K
     clear qc0 qc1 qc2 qc3 qc4 qc5 qc6
     refine tkV (v:=?_) 12 (some 19) rfl rfl (by kernel_rfl) rfl (fun W' => ?_) ?_
     rotate_left
     ·go_simp; (try with_reducible rfl)
     simp only [Act.put,List.setIfInBounds_toArray,List.set_cons_zero,List.set_cons_succ]
     obtain ⟨qc0,qc1,qc2,qc3,qc4,qc5,qc6⟩:=cells7 hst.q
     refine wpAnyH_ready (rs:=[13]) (by kernel_rfl) (by simp) (AllReadyH.cons rfl (fun K hK => ?_) AllReadyH.nil)
     go_simp
     refine hK.out _ _ trivial (fun _ => ?_)
     clear hK K
     clear qc0 qc1 qc2 qc3 qc4 qc5 qc6
     refine wpAnyH_ready (rs:=[14]) (by kernel_rfl) (by simp) (AllReadyH.cons rfl (fun K hK => ?_) AllReadyH.nil)
     go_simp
     refine (class_st q B5 d5 B6 d6 w _ _ _ rq hst).mono ?_
     rintro e w1 ⟨rfl,hst⟩
     refine hK.out _ _ trivial (fun _ => ?_)
     clear hK K
     refine tkV (v:=?_) 15 (some 22) rfl rfl (by kernel_rfl) rfl (fun W' => ?_) ?_
     rotate_left
     ·go_simp; (try with_reducible rfl)
     simp only [Act.put,List.setIfInBounds_toArray,List.set_cons_zero,List.set_cons_succ]
     exact wpAnyH_at (l':=#[true,true,true,true,true,true,true,true,true,true,true,true,true,true,true,true,false,false,false,false,false,false,false,false,false,false,false,false,false]) (by kernel_rfl) (tail _ hst)
    ·skip
     go_simp
     refine hK.out _ _ trivial (fun _ => ?_)
     clear hK K
     clear qc0 qc1 qc2 qc3 qc4 qc5 qc6
     refine wpAnyH_ready (rs:=[11]) (by kernel_rfl) (by simp) (AllReadyH.cons rfl (fun K hK => ?_) AllReadyH.nil)
     go_simp
     refine (class_st p A5 c5 A6 c6 w _ _ _ rp hst).mono ?_
     rintro e w1 ⟨rfl,hst⟩
     refine hK.out _ _ trivial (fun _ => ?_)
     clear hK K
     refine tkV (v:=?_) 12 (some 19) rfl rfl (by kernel_rfl) rfl (fun W' => ?_) ?_
     rotate_left
     ·go_simp; (try with_reducible rfl)
     simp only [Act.put,List.setIfInBounds_toArray,List.set_cons_zero,List.set_cons_succ]
     refine wpAnyH_ready (rs:=[14]) (by kernel_rfl) (by simp) (AllReadyH.cons rfl (fun K hK => ?_) AllReadyH.nil)
     go_simp
     refine (class_st q B5 d5 B6 d6 w _ _ _ rq hst).mono ?_
     rintro e w1 ⟨rfl,hst⟩
     refine hK.out _ _ trivial (fun _ => ?_)
     clear hK K
     refine tkV (v:=?_) 15 (some 22) rfl rfl (by kernel_rfl) rfl (fun W' => ?_) ?_
     rotate_left
     ·go_simp; (try with_reducible rfl)
     simp only [Act.put,List.setIfInBounds_toArray,List.set_cons_zero,List.set_cons_succ]
     exact wpAnyH_at (l':=#[true,true,true,true,true,true,true,true,true,true,true,true,true,true,true,true,false,false,false,false,false,false,false,false,false,false,false,false,false]) (by kernel_rfl) (tail _ hst)
   ·skip
    go_simp
    refine hK.out _ _ trivial (fun _ => ?_)
    clear hK K
    clear qc0 qc1 qc2 qc3 qc4 qc5 qc6
    refine wpAnyH_ready (rs:=[9]) (by kernel_rfl) (by simp) (AllReadyH.cons rfl (fun K hK => ?_) AllReadyH.nil)
    go_simp
    refine (rules_st w _ _ _ hst).mono ?_
    rintro e w1 ⟨rfl,hst⟩
    refine hK.out _ _ trivial (fun _ => ?_)
    clear hK K
    refine wpAnyH_ready (rs:=[11]) (by kernel_rfl) (by simp) (AllReadyH.cons rfl (fun K hK => ?_) AllReadyH.nil)
    go_simp
    refine (class_st p A5 c5 A6 c6 w _ _ _ rp hst).mono ?_
    rintro e w1 ⟨rfl,hst⟩
    refine hK.out _ _ trivial (fun _ => ?_)
    clear hK K
    refine tkV (v:=?_) 12 (some 19) rfl rfl (by kernel_rfl) rfl (fun W' => ?_) ?_
    rotate_left
    ·go_simp; (try with_reducible rfl)
    simp only [Act.put,List.setIfInBounds_toArray,List.set_cons_zero,List.set_cons_succ]
    refine wpAnyH_ready (rs:=[14]) (by kernel_rfl) (by simp) (AllReadyH.cons rfl (fun K hK => ?_) AllReadyH.nil)
    go_simp
    refine (class_st q B5 d5 B6 d6 w _ _ _ rq hst).mono ?_
    rintro e w1 ⟨rfl,hst⟩
    refine hK.out _ _ trivial (fun _ => ?_)
    clear hK K
    refine tkV (v:=?_) 15 (some 22) rfl rfl (by kernel_rfl) rfl (fun W' => ?_) ?_
    rotate_left
    ·go_simp; (try with_reducible rfl)
    simp only [Act.put,List.setIfInBounds_toArray,List.set_cons_zero,List.set_cons_succ]
    exact wpAnyH_at (l':=#[true,true,true,true,true,true,true,true,true,true,true,true,true,true,true,true,false,false,false,false,false,false,false,false,false,false,false,false,false]) (by kernel_rfl) (tail _ hst)
  ·skip
   go_simp
   refine hK.out _ _ trivial (fun _ => ?_)
   clear hK K
   clear pc0 pc1 pc2 pc3 pc4 pc5 pc6 qc0 qc1 qc2 qc3 qc4 qc5 qc6
   obtain ⟨pc0,pc1,pc2,pc3,pc4,pc5,pc6⟩:=cells7 hst.p
   refine wpAnyH_ready (rs:=[9,10]) (by kernel_rfl) (by simp) (AllReadyH.cons rfl (fun K hK => ?_) (AllReadyH.cons rfl (fun K hK => ?_) AllReadyH.nil))
   ·skip
    go_simp
    refine (rules_st w _ _ _ hst).mono ?_
    rintro e w1 ⟨rfl,hst⟩
    refine hK.out _ _ trivial (fun _ => ?_)
    clear hK K
    clear pc0 pc1 pc2 pc3 pc4 pc5 pc6
    obtain ⟨pc0,pc1,pc2,pc3,pc4,pc5,pc6⟩:=cells7 hst.p
    refine wpAnyH_ready (rs:=[10]) (by kernel_rfl) (by simp) (AllReadyH.cons rfl (fun K hK => ?_) AllReadyH.nil)
    go_simp
    refine hK.out _ _ trivial (fun _ => ?_)
    clear hK K
    clear pc0 pc1 pc2 pc3 pc4 pc5 pc6
    refine wpAnyH_ready (rs:=[11]) (by kernel_rfl) (by simp) (AllReadyH.cons rfl (fun K hK => ?_) AllReadyH.nil)
    go_simp
    refine (class_st p A5 c5 A6 c6 w _ _ _ rp hst).mono ?_
    rintro e w1 ⟨rfl,hst⟩
    refine hK.out _ _ trivial (fun _ => ?_)
    clear hK K
    refine tkV (v:=?_) 12 (some 19) rfl rfl (by kernel_rfl) rfl (fun W' => ?_) ?_
    rotate_left
    ·go_simp; (try with_reducible rfl)
    simp only [Act.put,List.setIfInBounds_toArray,List.set_cons_zero,List.set_cons_succ]
    refine wpAnyH_ready (rs:=[14]) (by kernel_rfl) (by simp) (AllReadyH.cons rfl (fun K hK => ?_) AllReadyH.nil)
    go_simp
    refine (class_st q B5 d5 B6 d6 w _ _ _ rq hst).mono ?_
    rintro e w1 ⟨rfl,hst⟩
    refine hK.out _ _ trivial (fun _ => ?_)
    clear hK K
    refine tkV (v:=?_) 15 (some 22) rfl rfl (by kernel_rfl) rfl (fun W' => ?_) ?_
    rotate_left
    ·go_simp; (try with_reducible rfl)
    simp only [Act.put,List.setIfInBounds_toArray,List.set_cons_zero,List.set_cons_succ]
    exact wpAnyH_at (l':=#[true,true,true,true,true,true,true,true,true,true,true,true,true,true,true,true,false,false,false,false,false,false,false,false,false,false,false,false,false]) (by kernel_rfl) (tail _ hst)
   ·skip
    go_simp
    refine hK.out _ _ trivial (fun _ => ?_)
    clear hK K
    clear pc0 pc1 pc2 pc3 pc4 pc5 pc6
    refine wpAnyH_ready (rs:=[9]) (by kernel_rfl) (by simp) (AllReadyH.cons rfl (fun K hK => ?_) AllReadyH.nil)
    go_simp
    refine (rules_st w _ _ _ hst).mono ?_
    rintro e w1 ⟨rfl,hst⟩
    refine hK.out _ _ trivial (fun _ => ?_)
    clear hK K
    refine wpAnyH_ready (rs:=[11]) (by kernel_rfl) (by simp) (AllReadyH.cons rfl (fun K hK => ?_) AllReadyH.nil)
    go_simp
    refine (class_st p A5 c5 A6 c6 w _ _ _ rp hst).mono ?_
    rintro e w1 ⟨rfl,hst⟩
    refine hK.out _ _ trivial (fun _ => ?_)
    clear hK K
    refine tkV (v:=?_) 12 (some 19) rfl rfl (by kernel_rfl) rfl (fun W' => ?_) ?_
    rotate_left
    ·go_simp; (try with_reducible rfl)
    simp only [Act.put,List.setIfInBounds_toArray,List.set_cons_zero,List.set_cons_succ]
    refine wpAnyH_ready (rs:=[14]) (by kernel_rfl) (by simp) (AllReadyH.cons rfl (fun K hK => ?_) AllReadyH.nil)
    go_simp
    refine (class_st q B5 d5 B6 d6 w _ _ _ rq hst).mono ?_
    rintro e w1 ⟨rfl,hst⟩
    refine hK.out _ _ trivial (fun _ => ?_)
    clear hK K
    refine tkV (v:=?_) 15 (some 22) rfl rfl (by kernel_rfl) rfl (fun W' => ?_) ?_
    rotate_left
    ·go_simp; (try with_reducible rfl)
    simp only [Act.put,List.setIfInBounds_toArray,List.set_cons_zero,List.set_cons_succ]
    exact wpAnyH_at (l':=#[true,true,true,true,true,true,true,true,true,true,true,true,true,true,true,true,false,false,false,false,false,false,false,false,false,false,false,false,false]) (by kernel_rfl) (tail _ hst)
 ·clear hst
  intro w1 hst
  refine wpAnyH_ready (rs:=[16]) (by kernel_rfl) (by simp) (AllReadyH.cons rfl (fun K hK => ?_) AllReadyH.nil)
  go_simp
  refine (hrule _ hst).mono ?_
  rintro e w1 ⟨rfl,hst⟩
  refine hK.out _ _ trivial (fun _ => ?_)
  clear hK K
  cases r with
  | false =>
   refine tkV (v:=?_) 17 (some 24) rfl rfl (by kernel_rfl) rfl (fun W' => ?_) ?_
   rotate_left
   ·go_simp; (try with_reducible rfl)
   simp only [Act.put,List.setIfInBounds_toArray,List.set_cons_zero,List.set_cons_succ]
   refine tkV (v:=?_) 18 (some 25) rfl rfl (by kernel_rfl) rfl (fun W' => ?_) ?_
   rotate_left
   ·go_simp; (try with_reducible rfl)
   simp only [Act.put,List.setIfInBounds_toArray,List.set_cons_zero,List.set_cons_succ]
   refine tkV (v:=?_) 19 (some 26) rfl rfl (by kernel_rfl) rfl (fun W' => ?_) ?_
   rotate_left
   ·go_simp; (try with_reducible rfl)
   simp only [Act.put,List.setIfInBounds_toArray,List.set_cons_zero,List.set_cons_succ]
   refine tkS 20 (some 27) rfl rfl (by kernel_rfl) rfl ?_
   simp only [Act.put,List.setIfInBounds_toArray,List.set_cons_zero,List.set_cons_succ]
   refine tkS 21 (some 28) rfl rfl (by kernel_rfl) rfl ?_
   simp only [Act.put,List.setIfInBounds_toArray,List.set_cons_zero,List.set_cons_succ]
   refine tkS 22 (some 29) rfl rfl (by kernel_rfl) rfl ?_
   simp only [Act.put,List.setIfInBounds_toArray,List.set_cons_zero,List.set_cons_succ]
   refine tkV (v:=?_) 23 (some 30) rfl rfl (by kernel_rfl) rfl (fun W' => ?_) ?_
   rotate_left
   ·go_simp; (try with_reducible rfl)
   simp only [Act.put,List.setIfInBounds_toArray,List.set_cons_zero,List.set_cons_succ]
   refine tkV (v:=?_) 24 (some 31) rfl rfl (by kernel_rfl) rfl (fun W' => ?_) ?_
   rotate_left
   ·go_simp; (try with_reducible rfl)
   simp only [Act.put,List.setIfInBounds_toArray,List.set_cons_zero,List.set_cons_succ]
   refine tkS 25 (some 32) rfl rfl (by kernel_rfl) rfl ?_
   simp only [Act.put,List.setIfInBounds_toArray,List.set_cons_zero,List.set_cons_succ]
   refine tkS 26 (some 33) rfl rfl (by kernel_rfl) rfl ?_
   simp only [Act.put,List.setIfInBounds_toArray,List.set_cons_zero,List.set_cons_succ]
   refine tkS 27 (some 34) rfl rfl (by kernel_rfl) rfl ?_
   simp only [Act.put,List.setIfInBounds_toArray,List.set_cons_zero,List.set_cons_succ]
   refine tkV (v:=?_) 28 (some 35) rfl rfl (by kernel_rfl) rfl (fun W' => ?_) ?_
   rotate_left
   ·go_simp; (try with_reducible rfl)
   simp only [Act.put,List.setIfInBounds_toArray,List.set_cons_zero,List.set_cons_succ]
   refine wpAnyH_done (by kernel_rfl) ?_ _
   obtain ⟨xc0,xc1,xc2,xc3,xc4,xc5,xc6⟩:=cells7 hst.x
   obtain ⟨yc0,yc1,yc2,yc3,yc4,yc5,yc6⟩:=cells7 hst.y
   obtain ⟨pf0,pf1,pf2,pf3,pf4,pf5,pf6⟩:=frozen7 hst.p
   obtain ⟨qf0,qf1,qf2,qf3,qf4,qf5,qf6⟩:=frozen7 hst.q
   obtain ⟨xf0,xf1,xf2,xf3,xf4,xf5,xf6⟩:=frozen7 hst.x
   obtain ⟨yf0,yf1,yf2,yf3,yf4,yf5,yf6⟩:=frozen7 hst.y
   clear RP RQ RP2 RQ2
   clear hrule h70 h69
   go_wp2
   all_goals
    refine bodyPost_ret (ret24 (gx:=w.heap.size + 1 + 1) (gy:=w.heap.size + 1 + 1 + 1) rfl rfl rfl ?_ ?_) rfl ⟨rfl,?_⟩
    ·exact ((keep7 (by omega) _ _ _ _ _ _ _).trans (set7 hst.x rfl _ _ _ _ _ _ _))
    ·exact (set7 ((keep7 (by omega) _ _ _ _ _ _ _).trans hst.y) rfl _ _ _ _ _ _ _)
    ·exact (below7 (below7 hst.below (by omega) _ _ _ _ _ _ _) (by omega) _ _ _ _ _ _ _)
  | true =>
   refine tkV (v:=?_) 17 (some 24) rfl rfl (by kernel_rfl) rfl (fun W' => ?_) ?_
   rotate_left
   ·go_simp; (try with_reducible rfl)
   simp only [Act.put,List.setIfInBounds_toArray,List.set_cons_zero,List.set_cons_succ]
   refine tkV (v:=?_) 18 (some 25) rfl rfl (by kernel_rfl) rfl (fun W' => ?_) ?_
   rotate_left
   ·go_simp; (try with_reducible rfl)
   simp only [Act.put,List.setIfInBounds_toArray,List.set_cons_zero,List.set_cons_succ]
   refine tkV (v:=?_) 19 (some 26) rfl rfl (by kernel_rfl) rfl (fun W' => ?_) ?_
   rotate_left
   ·go_simp; (try with_reducible rfl)
   simp only [Act.put,List.setIfInBounds_toArray,List.set_cons_zero,List.set_cons_succ]
   obtain ⟨pc0,pc1,pc2,pc3,pc4,pc5,pc6⟩:=cells7 hst.p
   refine wpAnyH_ready (rs:=[20]) (by kernel_rfl) (by simp) (AllReadyH.cons rfl (fun K hK => ?_) AllReadyH.nil)
   go_simp
   refine hK.out _ _ trivial (fun _ => ?_)
   clear hK K
   clear pc0 pc1 pc2 pc3 pc4 pc5 pc6
   refine wpAnyH_ready (rs:=[21]) (by kernel_rfl) (by simp) (AllReadyH.cons rfl (fun K hK => ?_) AllReadyH.nil)
   go_simp
   refine (RP2 _ _ _ hst).mono ?_
   rintro e w1 ⟨rfl,hst⟩
   refine hK.out _ _ trivial (fun _ => ?_)
   clear hK K
   cases x3 with
   | false =>
    refine tkV (v:=?_) 22 (some 29) rfl rfl (by kernel_rfl) rfl (fun W' => ?_) ?_
    rotate_left
    ·go_simp; (try with_reducible rfl)
    simp only [Act.put,List.setIfInBounds_toArray,List.set_cons_zero,List.set_cons_succ]
    refine tkV (v:=?_) 23 (some 30) rfl rfl (by kernel_rfl) rfl (fun W' => ?_) ?_
    rotate_left
    ·go_simp; (try with_reducible rfl)
    simp only [Act.put,List.setIfInBounds_toArray,List.set_cons_zero,List.set_cons_succ]
    refine tkV (v:=?_) 24 (some 31) rfl rfl (by kernel_rfl) rfl (fun W' => ?_) ?_
    rotate_left
    ·go_simp; (try with_reducible rfl)
    simp only [Act.put,List.setIfInBounds_toArray,List.set_cons_zero,List.set_cons_succ]
    refine tkS 25 (some 32) rfl rfl (by kernel_rfl) rfl ?_
    simp only [Act.put,List.setIfInBounds_toArray,List.set_cons_zero,List.set_cons_succ]
    refine tkS 26 (some 33) rfl rfl (by kernel_rfl) rfl ?_
    simp only [Act.put,List.setIfInBounds_toArray,List.set_cons_zero,List.set_cons_succ]
    refine tkS 27 (some 34) rfl rfl (by kernel_rfl) rfl ?_
    simp only [Act.put,List.setIfInBounds_toArray,List.set_cons_zero,List.set_cons_succ]
    refine tkV (v:=?_) 28 (some 35) rfl rfl (by kernel_rfl) rfl (fun W' => ?_) ?_
    rotate_left
    ·go_simp; (try with_reducible rfl)
    simp only [Act.put,List.setIfInBounds_toArray,List.set_cons_zero,List.set_cons_succ]
    refine wpAnyH_done (by kernel_rfl) ?_ _
    obtain ⟨xc0,xc1,xc2,xc3,xc4,xc5,xc6⟩:=cells7 hst.x
    obtain ⟨yc0,yc1,yc2,yc3,yc4,yc5,yc6⟩:=cells7 hst.y
    obtain ⟨pf0,pf1,pf2,pf3,pf4,pf5,pf6⟩:=frozen7 hst.p
    obtain ⟨qf0,qf1,qf2,qf3,qf4,qf5,qf6⟩:=frozen7 hst.q
    obtain ⟨xf0,xf1,xf2,xf3,xf4,xf5,xf6⟩:=frozen7 hst.x
    obtain ⟨yf0,yf1,yf2,yf3,yf4,yf5,yf6⟩:=frozen7 hst.y
    clear RP RQ RP2 RQ2
    clear hrule h70 h69
    go_wp2
    all_goals
     refine bodyPost_ret (ret24 (gx:=w.heap.size + 1 + 1) (gy:=w.heap.size + 1 + 1 + 1) rfl rfl rfl ?_ ?_) rfl ⟨rfl,?_⟩
     ·exact ((keep7 (by omega) _ _ _ _ _ _ _).trans (set7 hst.x rfl _ _ _ _ _ _ _))
     ·exact (set7 ((keep7 (by omega) _ _ _ _ _ _ _).trans hst.y) rfl _ _ _ _ _ _ _)
     ·exact (below7 (below7 hst.below (by omega) _ _ _ _ _ _ _) (by omega) _ _ _ _ _ _ _)
   | true =>
    refine tkV (v:=?_) 22 (some 29) rfl rfl (by kernel_rfl) rfl (fun W' => ?_) ?_
    rotate_left
    ·go_simp; (try with_reducible rfl)
    simp only [Act.put,List.setIfInBounds_toArray,List.set_cons_zero,List.set_cons_succ]
    refine tkV (v:=?_) 23 (some 30) rfl rfl (by kernel_rfl) rfl (fun W' => ?_) ?_
    rotate_left
    ·go_simp; (try with_reducible rfl)
    simp only [Act.put,List.setIfInBounds_toArray,List.set_cons_zero,List.set_cons_succ]
    refine tkV (v:=?_) 24 (some 31) rfl rfl (by kernel_rfl) rfl (fun W' => ?_) ?_
    rotate_left
    ·go_simp; (try with_reducible rfl)
    simp only [Act.put,List.setIfInBounds_toArray,List.set_cons_zero,List.set_cons_succ]
    obtain ⟨qc0,qc1,qc2,qc3,qc4,qc5,qc6⟩:=cells7 hst.q
    refine wpAnyH_ready (rs:=[25]) (by kernel_rfl) (by simp) (AllReadyH.cons rfl (fun K hK => ?_) AllReadyH.nil)
    go_simp
    refine hK.out _ _ trivial (fun _ => ?_)
    clear hK K
    clear qc0 qc1 qc2 qc3 qc4 qc5 qc6
    refine wpAnyH_ready (rs:=[26]) (by kernel_rfl) (by simp) (AllReadyH.cons rfl (fun K hK => ?_) AllReadyH.nil)
    go_simp
    refine (RQ2 _ _ _ hst).mono ?_
    rintro e w1 ⟨rfl,hst⟩
    refine hK.out _ _ trivial (fun _ => ?_)
    clear hK K
    cases x4 with
    | false =>
     refine tkV (v:=?_) 27 (some 34) rfl rfl (by kernel_rfl) rfl (fun W' => ?_) ?_
     rotate_left
     ·go_simp; (try with_reducible rfl)
     simp only [Act.put,List.setIfInBounds_toArray,List.set_cons_zero,List.set_cons_succ]
     refine tkV (v:=?_) 28 (some 35) rfl rfl (by kernel_rfl) rfl (fun W' => ?_) ?_
     rotate_left
     ·go_simp; (try with_reducible rfl)
     simp only [Act.put,List.setIfInBounds_toArray,List.set_cons_zero,List.set_cons_succ]
     refine wpAnyH_done (by kernel_rfl) ?_ _
     obtain ⟨xc0,xc1,xc2,xc3,xc4,xc5,xc6⟩:=cells7 hst.x
     obtain ⟨yc0,yc1,yc2,yc3,yc4,yc5,yc6⟩:=cells7 hst.y
     obtain ⟨pf0,pf1,pf2,pf3,pf4,pf5,pf6⟩:=frozen7 hst.p
     obtain ⟨qf0,qf1,qf2,qf3,qf4,qf5,qf6⟩:=frozen7 hst.q
     obtain ⟨xf0,xf1,xf2,xf3,xf4,xf5,xf6⟩:=frozen7 hst.x
     obtain ⟨yf0,yf1,yf2,yf3,yf4,yf5,yf6⟩:=frozen7 hst.y
     clear RP RQ RP2 RQ2
     clear hrule h70 h69
     go_wp2
     all_goals
      refine bodyPost_ret (ret24 (gx:=w.heap.size + 1 + 1) (gy:=w.heap.size + 1 + 1 + 1) rfl rfl rfl ?_ ?_) rfl ⟨rfl,?_⟩
      ·exact ((keep7 (by omega) _ _ _ _ _ _ _).trans (set7 hst.x rfl _ _ _ _ _ _ _))
      ·exact (set7 ((keep7 (by omega) _ _ _ _ _ _ _).trans hst.y) rfl _ _ _ _ _ _ _)
      ·exact (below7 (below7 hst.below (by omega) _ _ _ _ _ _ _) (by omega) _ _ _ _ _ _ _)
    | true =>
     refine tkV (v:=?_) 27 (some 34) rfl rfl (by kernel_rfl) rfl (fun W' => ?_) ?_
     rotate_left
     ·go_simp; (try with_reducible rfl)
     simp only [Act.put,List.setIfInBounds_toArray,List.set_cons_zero,List.set_cons_succ]
     refine tkV (v:=?_) 28 (some 35) rfl rfl (by kernel_rfl) rfl (fun W' => ?_) ?_
     rotate_left
     ·go_simp; (try with_reducible rfl)
     simp only [Act.put,List.setIfInBounds_toArray,List.set_cons_zero,List.set_cons_succ]
     refine wpAnyH_done (by kernel_rfl) ?_ _
     obtain ⟨pc0,pc1,pc2,pc3,pc4,pc5,pc6⟩:=cells7 hst.p
     obtain ⟨qc0,qc1,qc2,qc3,qc4,qc5,qc6⟩:=cells7 hst.q
     obtain ⟨xc0,xc1,xc2,xc3,xc4,xc5,xc6⟩:=cells7 hst.x
     obtain ⟨yc0,yc1,yc2,yc3,yc4,yc5,yc6⟩:=cells7 hst.y
     obtain ⟨pf0,pf1,pf2,pf3,pf4,pf5,pf6⟩:=frozen7 hst.p
     obtain ⟨qf0,qf1,qf2,qf3,qf4,qf5,qf6⟩:=frozen7 hst.q
     obtain ⟨xf0,xf1,xf2,xf3,xf4,xf5,xf6⟩:=frozen7 hst.x
     obtain ⟨yf0,yf1,yf2,yf3,yf4,yf5,yf6⟩:=frozen7 hst.y
     clear RP RQ RP2 RQ2
     clear hrule h70 h69
     go_wp2
     all_goals go_region
     all_goals go_wp2
     all_goals
      refine bodyPost_ret (ret24 (gx:=w.heap.size + 1 + 1) (gy:=w.heap.size + 1 + 1 + 1) rfl rfl rfl ?_ ?_) rfl ⟨rfl,?_⟩
      ·exact drew_at ((keep7 (by omega) _ _ _ _ _ _ _).trans (set7 hst.x rfl _ _ _ _ _ _ _))
      ·exact drew_at (set7 ((keep7 (by omega) _ _ _ _ _ _ _).trans hst.y) rfl _ _ _ _ _ _ _)
      ·exact Below.drew (below7 (below7 hst.below (by omega) _ _ _ _ _ _ _) (by omega) _ _ _ _ _ _ _)
end Go.Proofs.YthhohbidjhcjeaaDoor.H
namespace Go.Proofs.YthhohbidjhcjeaaDoor.H
open Go.RowKit Go.Proofs.YthhohbidjhcjeaaDoorW.PrintWords Go.Proofs.YthhohbidjhcjeaaDoorW.PrintLast Go.Proofs.YthhohbidjhcjeaaDoorW.PrintMore
open Go.Proofs.YthhohbidjhcjeaaDoor.Q Go.Proofs.YthhohbidjhcjeaaDoor.Pl

theorem row0 : ∀ W,(Instr.index 70 (.agg rulesV) (.int .i64 0)).run Tryd.prog W = .ok (.agg #[.func (.func 84) #[] #[],.func (.func 85) #[] #[],.func (.func 84) #[] #[]]) W:=fun _ => by kernel_rfl
theorem row00 : ∀ W,(Instr.index 69 (.agg #[.func (.func 84) #[] #[],.func (.func 85) #[] #[],.func (.func 84) #[] #[]]) (.int .i64 0)).run Tryd.prog W = .ok (.func (.func 84) #[] #[]) W:=fun _ => by kernel_rfl
theorem row01 : ∀ W,(Instr.index 69 (.agg #[.func (.func 84) #[] #[],.func (.func 85) #[] #[],.func (.func 84) #[] #[]]) (.int .i64 1)).run Tryd.prog W = .ok (.func (.func 85) #[] #[]) W:=fun _ => by kernel_rfl
theorem row02 : ∀ W,(Instr.index 69 (.agg #[.func (.func 84) #[] #[],.func (.func 85) #[] #[],.func (.func 84) #[] #[]]) (.int .i64 2)).run Tryd.prog W = .ok (.func (.func 84) #[] #[]) W:=fun _ => by kernel_rfl
theorem row1 : ∀ W,(Instr.index 70 (.agg rulesV) (.int .i64 1)).run Tryd.prog W = .ok (.agg #[.func (.func 85) #[] #[],.func (.func 86) #[] #[],.func (.func 87) #[] #[]]) W:=fun _ => by kernel_rfl
theorem row10 : ∀ W,(Instr.index 69 (.agg #[.func (.func 85) #[] #[],.func (.func 86) #[] #[],.func (.func 87) #[] #[]]) (.int .i64 0)).run Tryd.prog W = .ok (.func (.func 85) #[] #[]) W:=fun _ => by kernel_rfl
theorem row11 : ∀ W,(Instr.index 69 (.agg #[.func (.func 85) #[] #[],.func (.func 86) #[] #[],.func (.func 87) #[] #[]]) (.int .i64 1)).run Tryd.prog W = .ok (.func (.func 86) #[] #[]) W:=fun _ => by kernel_rfl
theorem row12 : ∀ W,(Instr.index 69 (.agg #[.func (.func 85) #[] #[],.func (.func 86) #[] #[],.func (.func 87) #[] #[]]) (.int .i64 2)).run Tryd.prog W = .ok (.func (.func 87) #[] #[]) W:=fun _ => by kernel_rfl
theorem row2 : ∀ W,(Instr.index 70 (.agg rulesV) (.int .i64 2)).run Tryd.prog W = .ok (.agg #[.func (.func 84) #[] #[],.func (.func 89) #[] #[],.func (.func 84) #[] #[]]) W:=fun _ => by kernel_rfl
theorem row20 : ∀ W,(Instr.index 69 (.agg #[.func (.func 84) #[] #[],.func (.func 89) #[] #[],.func (.func 84) #[] #[]]) (.int .i64 0)).run Tryd.prog W = .ok (.func (.func 84) #[] #[]) W:=fun _ => by kernel_rfl
theorem row21 : ∀ W,(Instr.index 69 (.agg #[.func (.func 84) #[] #[],.func (.func 89) #[] #[],.func (.func 84) #[] #[]]) (.int .i64 1)).run Tryd.prog W = .ok (.func (.func 89) #[] #[]) W:=fun _ => by kernel_rfl
theorem row22 : ∀ W,(Instr.index 69 (.agg #[.func (.func 84) #[] #[],.func (.func 89) #[] #[],.func (.func 84) #[] #[]]) (.int .i64 2)).run Tryd.prog W = .ok (.func (.func 84) #[] #[]) W:=fun _ => by kernel_rfl
theorem class2 {x : S24} (h : x.f0 = 10) : classS x = 2:=if_pos h
theorem class1 {x : S24} (h : ¬ x.f0 = 10) (h7 : 7 ≤ x.f0) : classS x = 1:=(if_neg h).trans (if_pos h7)
theorem class0 {x : S24} (h : ¬ x.f0 = 10) (h7 : ¬ 7 ≤ x.f0) : classS x = 0:=(if_neg h).trans (if_neg h7)
/-- The function that the table gives. -/
structure Fn (n : Nat) (p q : S24) : Prop where
 en : ∀ args w,(callFunc n args).run Tryd.prog w = .ok (.enter n args) w
 at' : ∃ row : Array Value,(∀ W,(Instr.index 70 (.agg rulesV) (.int .i64 (classS p))).run Tryd.prog W = .ok (.agg row) W) ∧ ∀ W,(Instr.index 69 (.agg row) (.int .i64 (classS q))).run Tryd.prog W = .ok (.func (.func n) #[] #[]) W
theorem rule_fn (p q : S24) (A5 : Option Addr) (c5 : Nat) (A6 : Option Addr) (c6 : Nat) (B5 : Option Addr) (d5 : Nat) (B6 : Option Addr) (d6 : Nat) (w : World) (bp : primB p = true) (bq : primB q = true) :
  ∃ n,Fn n p q ∧ ∀ W,St w (cs p A5 c5 A6 c6) (cs q B5 d5 B6 d6) W → Calls Tryd.prog n #[.pointer (some ⟨w.heap.size,0,none⟩),.pointer (some ⟨w.heap.size + 1,0,none⟩)] W fun e W' => e = .returned (.bool (ruleS p q).2.2) ∧ St w (cs (ruleS p q).1 A5 c5 A6 c6) (cs (ruleS p q).2.1 B5 d5 B6 d6) W':=by
 have s1:=prim_f1 bp
 have s2:=prim_f1 bq
 by_cases cp : p.f0 = 10
 ·by_cases cq : q.f0 = 10
  ·have hr : ruleS p q = (p,q,apartL (pathsS p) (pathsS q)):=by unfold ruleS; rw [if_pos cp,if_pos cq]
   rw [hr]
   refine ⟨84,⟨fun args w => by go_simp,#[.func (.func 84) #[] #[],.func (.func 89) #[] #[],.func (.func 84) #[] #[]],by rw [class2 cp]; exact row2,by rw [class2 cq]; exact row22⟩,fun W h => ?_⟩
   refine (still_calls p q A5 c5 A6 c6 B5 d5 B6 d6 _ _ W h.p h.q).mono ?_
   rintro e W' ⟨rfl,hb⟩
   exact ⟨rfl,h.later hb⟩
  ·by_cases dq : 7 ≤ q.f0
   ·have hr : ruleS p q = (p,{ q with f1:=(carryS q.f1 p.f2 p.f1).1 },(carryS q.f1 p.f2 p.f1).2):=by unfold ruleS; rw [if_pos cp,if_neg cq,if_pos dq]
    rw [hr]
    refine ⟨89,⟨fun args w => by go_simp,#[.func (.func 84) #[] #[],.func (.func 89) #[] #[],.func (.func 84) #[] #[]],by rw [class2 cp]; exact row2,by rw [class1 cq dq]; exact row21⟩,fun W h => ?_⟩
    refine (rule2_calls p q A5 c5 A6 c6 B5 d5 B6 d6 _ _ (by omega) W h.p h.q (by omega)).mono ?_
    rintro e W' ⟨rfl,hb⟩
    exact ⟨rfl,h.left hb⟩
   ·have hr : ruleS p q = (p,q,apartL (pathsS p) (pathsS q)):=by unfold ruleS; rw [if_pos cp,if_neg cq,if_neg dq]
    rw [hr]
    refine ⟨84,⟨fun args w => by go_simp,#[.func (.func 84) #[] #[],.func (.func 89) #[] #[],.func (.func 84) #[] #[]],by rw [class2 cp]; exact row2,by rw [class0 cq dq]; exact row20⟩,fun W h => ?_⟩
    refine (still_calls p q A5 c5 A6 c6 B5 d5 B6 d6 _ _ W h.p h.q).mono ?_
    rintro e W' ⟨rfl,hb⟩
    exact ⟨rfl,h.later hb⟩
 ·by_cases dp : 7 ≤ p.f0
  ·by_cases cq : q.f0 = 10
   ·have hr : ruleS p q = ({ p with f1:=(carryS p.f1 q.f1 q.f2).1 },q,(carryS p.f1 q.f1 q.f2).2):=by unfold ruleS; rw [if_neg cp,if_pos dp,if_pos cq]
    rw [hr]
    refine ⟨87,⟨fun args w => by go_simp,#[.func (.func 85) #[] #[],.func (.func 86) #[] #[],.func (.func 87) #[] #[]],by rw [class1 cp dp]; exact row1,by rw [class2 cq]; exact row12⟩,fun W h => ?_⟩
    refine (rule1_calls p q A5 c5 A6 c6 B5 d5 B6 d6 _ _ (by omega) W h.p h.q (by have:=prim_f2 bq cq; omega)).mono ?_
    rintro e W' ⟨rfl,hb⟩
    exact ⟨rfl,h.left hb⟩
   ·by_cases dq : 7 ≤ q.f0
    ·have hr : ruleS p q = bothS p q:=by unfold ruleS; rw [if_neg cp,if_pos dp,if_neg cq,if_pos dq]
     rw [hr]
     refine ⟨86,⟨fun args w => by go_simp,#[.func (.func 85) #[] #[],.func (.func 86) #[] #[],.func (.func 87) #[] #[]],by rw [class1 cp dp]; exact row1,by rw [class1 cq dq]; exact row11⟩,fun W h => ?_⟩
     refine (both_calls p q A5 c5 A6 c6 B5 d5 B6 d6 _ _ (by omega) W h.p h.q).mono ?_
     rintro e W' ⟨rfl,hb⟩
     exact ⟨rfl,h.left hb⟩
    ·have hr : ruleS p q = (p,q,p.f1.toList != q.f1.toList):=by unfold ruleS; rw [if_neg cp,if_pos dp,if_neg cq,if_neg dq]
     rw [hr]
     refine ⟨85,⟨fun args w => by go_simp,#[.func (.func 85) #[] #[],.func (.func 86) #[] #[],.func (.func 87) #[] #[]],by rw [class1 cp dp]; exact row1,by rw [class0 cq dq]; exact row10⟩,fun W h => ?_⟩
     refine (beside_calls p q A5 c5 A6 c6 B5 d5 B6 d6 _ _ W h.p h.q).mono ?_
     rintro e W' ⟨rfl,hb⟩
     exact ⟨rfl,h.later hb⟩
  ·by_cases cq : q.f0 = 10
   ·have hr : ruleS p q = (p,q,apartL (pathsS p) (pathsS q)):=by unfold ruleS; rw [if_neg cp,if_neg dp,if_pos cq]
    rw [hr]
    refine ⟨84,⟨fun args w => by go_simp,#[.func (.func 84) #[] #[],.func (.func 85) #[] #[],.func (.func 84) #[] #[]],by rw [class0 cp dp]; exact row0,by rw [class2 cq]; exact row02⟩,fun W h => ?_⟩
    refine (still_calls p q A5 c5 A6 c6 B5 d5 B6 d6 _ _ W h.p h.q).mono ?_
    rintro e W' ⟨rfl,hb⟩
    exact ⟨rfl,h.later hb⟩
   ·by_cases dq : 7 ≤ q.f0
    ·have hr : ruleS p q = (p,q,p.f1.toList != q.f1.toList):=by unfold ruleS; rw [if_neg cp,if_neg dp,if_neg cq,if_pos dq]
     rw [hr]
     refine ⟨85,⟨fun args w => by go_simp,#[.func (.func 84) #[] #[],.func (.func 85) #[] #[],.func (.func 84) #[] #[]],by rw [class0 cp dp]; exact row0,by rw [class1 cq dq]; exact row01⟩,fun W h => ?_⟩
     refine (beside_calls p q A5 c5 A6 c6 B5 d5 B6 d6 _ _ W h.p h.q).mono ?_
     rintro e W' ⟨rfl,hb⟩
     exact ⟨rfl,h.later hb⟩
    ·have hr : ruleS p q = (p,q,apartL (pathsS p) (pathsS q)):=by unfold ruleS; rw [if_neg cp,if_neg dp,if_neg cq,if_neg dq]
     rw [hr]
     refine ⟨84,⟨fun args w => by go_simp,#[.func (.func 84) #[] #[],.func (.func 85) #[] #[],.func (.func 84) #[] #[]],by rw [class0 cp dp]; exact row0,by rw [class0 cq dq]; exact row00⟩,fun W h => ?_⟩
     refine (still_calls p q A5 c5 A6 c6 B5 d5 B6 d6 _ _ W h.p h.q).mono ?_
     rintro e W' ⟨rfl,hb⟩
     exact ⟨rfl,h.later hb⟩
theorem Rd.of {w : World} {x y : S24} {A5 : Option Addr} {c5 : Nat} {A6 : Option Addr} {c6 : Nat} (h : Rd w x A5 c5 A6 c6) (h5 : y.f5 = x.f5) (h6 : y.f6 = x.f6) : Rd w y A5 c5 A6 c6:=by
 obtain ⟨a,b,c,d⟩:=h
 exact ⟨by rw [h5]; exact a,by rw [h5]; exact b,by rw [h6]; exact c,by rw [h6]; exact d⟩
theorem Rd.below {w w' : World} {x : S24} {A5 : Option Addr} {c5 : Nat} {A6 : Option Addr} {c6 : Nat} (h : Rd w x A5 c5 A6 c6) (hb : Below w.heap.size w w') : Rd w' x A5 c5 A6 c6:=⟨Kd.C_below h.g5 hb,h.l5,Kd.C_below h.g6 hb,h.l6⟩
/-- Commute, of two patches whose cells are known. -/
theorem comm_at (p q : S24) (A5 : Option Addr) (c5 : Nat) (A6 : Option Addr) (c6 : Nat) (B5 : Option Addr) (d5 : Nat) (B6 : Option Addr) (d6 : Nat) (w : World) (hp : Okp p) (hq : Okp q) (rp : Rd w p A5 c5 A6 c6) (rq : Rd w q B5 d5 B6 d6) :
  Calls Tryd.prog 24 #[.agg (cs p A5 c5 A6 c6),.agg (cs q B5 d5 B6 d6)] w fun e w' => ((comm p q = (z24,z24,false) ∧ e = .returned (.tuple #[.agg zeroC,.agg zeroC,.bool false])) ∨ ∃ a b,Yes p q a b ∧ e = .returned (.tuple #[.agg (cs a B5 d5 B6 d6),.agg (cs b A5 c5 A6 c6),.bool true])) ∧ Below w.heap.size w w':=by
 cases bp : primB p with
 | false =>
  refine (comm_np p q A5 c5 A6 c6 B5 d5 B6 d6 w hp rp bp).mono ?_
  rintro e w' ⟨rfl,hb⟩
  exact ⟨.inl ⟨if_neg (fun h => by rw [h.1] at bp; cases bp),rfl⟩,hb⟩
 | true =>
  cases bq : primB q with
  | false =>
   refine (comm_nq p q A5 c5 A6 c6 B5 d5 B6 d6 w hp rp bp hq rq bq).mono ?_
   rintro e w' ⟨rfl,hb⟩
   exact ⟨.inl ⟨if_neg (fun h => by rw [h.2.1] at bq; cases bq),rfl⟩,hb⟩
  | true =>
   obtain ⟨n,⟨en,row,h70,h69⟩,hrule⟩:=rule_fn p q A5 c5 A6 c6 B5 d5 B6 d6 w bp bq
   obtain ⟨b,a,r,hr⟩ : ∃ b a r,ruleS p q = (b,a,r):=⟨_,_,_,rfl⟩
   obtain ⟨hb,ha⟩:=okp_rule hr bp bq hp hq
   obtain ⟨kb,ka⟩:=rule_keep hr
   have rb : Rd w b A5 c5 A6 c6:=rp.of (by rw [kb]) (by rw [kb])
   have ra : Rd w a B5 d5 B6 d6:=rq.of (by rw [ka]) (by rw [ka])
   rw [hr] at hrule
   obtain ⟨x3,h3⟩ : ∃ x,primB b = x:=⟨_,rfl⟩
   obtain ⟨x4,h4⟩ : ∃ x,primB a = x:=⟨_,rfl⟩
   refine (comm_in p q b a A5 c5 A6 c6 B5 d5 B6 d6 w r x3 x4 hp rp bp hq rq bq hb rb h3 ha ra h4 n en row h70 h69 hrule).mono ?_
   intro e w' hP
   have hno : (r = true ∧ x3 = true ∧ x4 = true → False) → comm p q = (z24,z24,false):=fun hn => if_neg (fun h => by
    rw [hr] at h
    exact hn ⟨h.2.2.1,h3.symm.trans h.2.2.2.1,h4.symm.trans h.2.2.2.2⟩)
   cases r with
   | false => exact ⟨.inl ⟨hno (fun h => by cases h.1),hP.1⟩,hP.2⟩
   | true =>
    cases x3 with
    | false => exact ⟨.inl ⟨hno (fun h => by cases h.2.1),hP.1⟩,hP.2⟩
    | true =>
     cases x4 with
     | false => exact ⟨.inl ⟨hno (fun h => by cases h.2.2),hP.1⟩,hP.2⟩
     | true => exact ⟨.inr ⟨a,b,⟨bp,bq,h4,h3,hr⟩,hP.1⟩,hP.2⟩
theorem two_steps {u T v : World} (hT : Below u.heap.size u T) (hb : Below T.heap.size T v) : Below u.heap.size u v:=hT.trans (hb.mono hT.size)
theorem box1 (u : World) (o o' : Obj) : ((u.alloc o).alloc o').heap[u.heap.size]? = some o:=blk_alloc (blk_new u o) o'
theorem box2 (u : World) (o o' : Obj) : ((u.alloc o).alloc o').heap[u.heap.size + 1]? = some o':=by
 have h:=blk_new (u.alloc o) o'
 simpa using h
theorem right_at (x : S24) (A5 : Option Addr) (c5 : Nat) (A6 : Option Addr) (c6 : Nat) (w : World) (hx : Okp x) (rx : Rd w x A5 c5 A6 c6) :
  Calls Tryd.prog 19 #[.agg (cs x A5 c5 A6 c6)] w fun e w' => e = .returned (.bool (primB x)) ∧ Below w.heap.size w w':=by
 obtain ⟨k,hk⟩:=(prim_right x hx).rounds
 exact prim_Right.calls k _ _ _ _ _ _ _ _ _ _ _ _ w rx.g5 rx.l5 rx.g6 rx.l6 hk
end Go.Proofs.YthhohbidjhcjeaaDoor.H
namespace Go.Proofs.YthhohbidjhcjeaaDoor.H
open Go.RowKit Go.Proofs.YthhohbidjhcjeaaDoorW.PrintWords Go.Proofs.YthhohbidjhcjeaaDoorW.PrintLast Go.Proofs.YthhohbidjhcjeaaDoorW.PrintMore
open Go.Proofs.YthhohbidjhcjeaaDoor.Q Go.Proofs.YthhohbidjhcjeaaDoor.Pl

theorem ret26 {tmps : Array Value} {W : World} {gy : Nat} {y0 y1 y2 y3 y4 y5 y6 v r : Value} (h4 : tmps[4]? = some v) (h5 : tmps[5]? = some (.pointer (some ⟨gy,0,none⟩))) (h6 : tmps[6]? = some r)
  (hy : W.heap[gy]? = some (.cells #[y0,y1,y2,y3,y4,y5,y6] 24 (0,0))) :
  (results Tryd.f26 tmps).run Tryd.prog W = .ok (.tuple #[v,.agg #[y0,y1,y2,y3,y4,y5,y6],r]) W:=by
 have yc0 : W.cell? ⟨gy,0,none⟩ = some y0:=(blk_cell hy 0).trans rfl
 have yc1 : W.cell? ⟨gy,1,none⟩ = some y1:=(blk_cell hy 1).trans rfl
 have yc2 : W.cell? ⟨gy,2,none⟩ = some y2:=(blk_cell hy 2).trans rfl
 have yc3 : W.cell? ⟨gy,3,none⟩ = some y3:=(blk_cell hy 3).trans rfl
 have yc4 : W.cell? ⟨gy,4,none⟩ = some y4:=(blk_cell hy 4).trans rfl
 have yc5 : W.cell? ⟨gy,5,none⟩ = some y5:=(blk_cell hy 5).trans rfl
 have yc6 : W.cell? ⟨gy,6,none⟩ = some y6:=(blk_cell hy 6).trans rfl
 simp [results,Tryd.results26,go_sem, *]
end Go.Proofs.YthhohbidjhcjeaaDoor.H
namespace Go.Proofs.YthhohbidjhcjeaaDoorW.PrintWords
open Go.RowKit
namespace Kd
section
variable {α : Type} {d : Kd α} {e base : Nat} {B : Nat → Prop} {w w1 W : World} {v v1 : Value} {xs : List α}
/-- A row of the call's own; what its elements lead to lies in B. -/
def NN {α : Type} (d : Kd α) (e : Nat) (w : World) (base : Nat) (B : Nat → Prop) (v : Value) (xs : List α) : Prop:=OwnRow (fun x c => FK d w B x c) e d.sz w base v xs
theorem NN_base (h : NN d e w base B v xs) : ∀ k,v.ownBlock = some k → base ≤ k:=by
 obtain ⟨inner,ho,_⟩:=h
 exact own_base ho
theorem NN_N (h : NN d e w base B v xs) (hB : ∀ k,B k → k < base) : N d e w base (fun k => B k ∨ base ≤ k) v xs:=by
 have hb:=NN_base h
 obtain ⟨inner,ho,hr⟩:=h
 refine ⟨fun k hk => .inr (hb k hk),chunks d.sz xs.length inner,chunks_length _ _ _,⟨fun k hk => hk.symm,inner,by rw [chunks_length]; exact ho,reps_raw hr (fun x c hp => (FK_raw hp).2)⟩,fun j x c hx hc => ?_⟩
 rw [chunks_get hc]
 exact FK_mono (hr.2 j x hx) (fun k hk => ⟨.inl hk,fun e => by have:=hb k e.symm; have:=hB k hk; omega⟩)
end
end Kd
end Go.Proofs.YthhohbidjhcjeaaDoorW.PrintWords
namespace Go
end Go
namespace Go.Proofs.YthhohbidjhcjeaaDoor.H
open Go.RowKit Go.Proofs.YthhohbidjhcjeaaDoorW.PrintWords Go.Proofs.YthhohbidjhcjeaaDoorW.PrintLast Go.Proofs.YthhohbidjhcjeaaDoorW.PrintMore
open Go.Proofs.YthhohbidjhcjeaaDoor.Q Go.Proofs.YthhohbidjhcjeaaDoor.Pl

abbrev A0 : S24:=⟨7,⟨#[97]⟩,⟨#[]⟩,⟨#[]⟩,4,[⟨#[119]⟩],[]⟩
theorem five (w : World) (o1 o2 o3 o4 o5 : Obj) : (((((w.alloc o1).alloc o2).alloc o3).alloc o4).alloc o5).heap[w.heap.size]? = some o1 ∧ (((((w.alloc o1).alloc o2).alloc o3).alloc o4).alloc o5).heap[w.heap.size + 1]? = some o2 ∧ (((((w.alloc o1).alloc o2).alloc o3).alloc o4).alloc o5).heap[w.heap.size + 1 + 1]? = some o3 ∧ (((((w.alloc o1).alloc o2).alloc o3).alloc o4).alloc o5).heap[w.heap.size + 1 + 1 + 1]? = some o4 ∧ (((((w.alloc o1).alloc o2).alloc o3).alloc o4).alloc o5).heap[w.heap.size + 1 + 1 + 1 + 1]? = some o5 ∧ Below w.heap.size w (((((w.alloc o1).alloc o2).alloc o3).alloc o4).alloc o5):=by
 refine ⟨blk_alloc (blk_alloc (blk_alloc (box1 w o1 o2) _) _) _,blk_alloc (blk_alloc (blk_alloc (box2 w o1 o2) _) _) _,?_,?_,?_,?_⟩
 ·have h:=blk_alloc (box1 ((w.alloc o1).alloc o2) o3 o4) o5
  simpa using h
 ·have h:=blk_alloc (box2 ((w.alloc o1).alloc o2) o3 o4) o5
  simpa using h
 ·have h:=blk_new ((((w.alloc o1).alloc o2).alloc o3).alloc o4) o5
  simpa using h
 ·exact (((((Below.refl _ w).alloc (Nat.le_refl _) _).alloc (by simp) _).alloc (by simp; omega) _).alloc (by simp; omega) _).alloc (by simp; omega) _
end Go.Proofs.YthhohbidjhcjeaaDoor.H
