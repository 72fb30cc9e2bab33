/- Printed by a program of this place out of the translation: what the functions compute, and their contracts. -/
import Derived.Test.YthhohbidjhcjeaaGreatDoorGM1
import Derived.Test.YthhohbidjhcjeaaGreatDoorGM3
import Derived.Shelf.SlSortCmp.WholeK
import Derived.Lib.OwnBridge
import Derived.Deep.LoopGhost
import Derived.Test.YthhohbidjhcjeaaGreatDoorGM2
namespace Go.Proofs.YthhohbidjhcjeaaGreatDoor.Q
open Go.RowKit Go.Proofs.YthhohbidjhcjeaaGreatDoorW.PrintWords Go.Proofs.YthhohbidjhcjeaaGreatDoorW.PrintLast Go.Proofs.YthhohbidjhcjeaaGreatDoorW.PrintMore
attribute [local go_sem] max2_int min2_int max_two min_two max_three min_three max_four min_four   -- for this text's walks alone
set_option linter.unusedVariables false
set_option linter.unusedSimpArgs false

mutual
def commute_apart.l0 : Nat → List ByteArray → List ByteArray → Int → Int → Option (Bool)
 | 0,_,_,_,_ => none
 | k + 1,x1,x9,x10,x11 => if x11 < x10 then (if 0 ≤ x11 then (if x11 < (x9.length : Int) then (commute_apart.l1 k x1 (rdOf ByteArray.empty x9 x11) x9 x10 x11 x1 (x1.length : Int) 0) else (none)) else (none)) else (some true)
def commute_apart.l1 : Nat → List ByteArray → ByteArray → List ByteArray → Int → Int → List ByteArray → Int → Int → Option (Bool)
 | 0,_,_,_,_,_,_,_,_ => none
 | k + 1,x1,x6,x9,x10,x11,x15,x16,x17 => if x17 < x16 then (if 0 ≤ x17 then (if x17 < (x15.length : Int) then ((path_Apart.f x6 (rdOf ByteArray.empty x15 x17)).bind fun t172 => (if t172 = true then (commute_apart.l1 k x1 x6 x9 x10 x11 x15 x16 (wrap64 (x17 + 1))) else (some false))) else (none)) else (none)) else (commute_apart.l0 k x1 x9 x10 (wrap64 (x11 + 1)))
end
def commute_apart.f (k : Nat) (l0 : List ByteArray) (l1 : List ByteArray) : Option (Bool):=commute_apart.l0 k l1 l0 (l0.length : Int) 0
theorem commute_apart.mono_l : ∀ k,(∀ y0 y1 y2 y3,LeO (commute_apart.l0 k y0 y1 y2 y3) (commute_apart.l0 (k + 1) y0 y1 y2 y3)) ∧ (∀ y0 y1 y2 y3 y4 y5 y6 y7,LeO (commute_apart.l1 k y0 y1 y2 y3 y4 y5 y6 y7) (commute_apart.l1 (k + 1) y0 y1 y2 y3 y4 y5 y6 y7))
 | 0 => ⟨fun _ _ _ _ r h => by simp [commute_apart.l0] at h,fun _ _ _ _ _ _ _ _ r h => by simp [commute_apart.l1] at h⟩
 | k + 1 => by
  obtain ⟨ih0,ih1⟩:=commute_apart.mono_l k
  refine ⟨?_,?_⟩
  ·intro y0 y1 y2 y3
   unfold commute_apart.l0
   repeat' first
   | (with_reducible exact ih0 _ _ _ _)
   | (with_reducible exact ih1 _ _ _ _ _ _ _ _)
   | (with_reducible exact LeO.refl _)
   | (with_reducible exact LeO.none _)
   | (with_reducible refine LeO.ite ?_ ?_)
   | (with_reducible refine LeO.bind ?_ (fun _ => ?_))
   | exact ih0 _ _ _ _
   | exact ih1 _ _ _ _ _ _ _ _
   | exact LeO.none _
   | refine LeO.ite ?_ ?_
   | refine LeO.bind ?_ (fun _ => ?_)
  ·intro y0 y1 y2 y3 y4 y5 y6 y7
   unfold commute_apart.l1
   repeat' first
   | (with_reducible exact ih0 _ _ _ _)
   | (with_reducible exact ih1 _ _ _ _ _ _ _ _)
   | (with_reducible exact LeO.refl _)
   | (with_reducible exact LeO.none _)
   | (with_reducible refine LeO.ite ?_ ?_)
   | (with_reducible refine LeO.bind ?_ (fun _ => ?_))
   | exact ih0 _ _ _ _
   | exact ih1 _ _ _ _ _ _ _ _
   | exact LeO.none _
   | refine LeO.ite ?_ ?_
   | refine LeO.bind ?_ (fun _ => ?_)
theorem commute_apart.mono : ∀ a0 a1 k,LeO (commute_apart.f k a0 a1) (commute_apart.f (k + 1) a0 a1):=by
 intro a0 a1 k
 obtain ⟨ih0,ih1⟩:=commute_apart.mono_l k
 unfold commute_apart.f
 repeat' first
   | (with_reducible exact ih0 _ _ _ _)
   | (with_reducible exact ih1 _ _ _ _ _ _ _ _)
   | (with_reducible exact LeO.refl _)
   | (with_reducible exact LeO.none _)
   | (with_reducible refine LeO.ite ?_ ?_)
   | (with_reducible refine LeO.bind ?_ (fun _ => ?_))
   | exact ih0 _ _ _ _
   | exact ih1 _ _ _ _ _ _ _ _
   | exact LeO.none _
   | refine LeO.ite ?_ ?_
   | refine LeO.bind ?_ (fun _ => ?_)
set_option maxHeartbeats 8000000 in
set_option maxRecDepth 100000 in
theorem commute_apart.calls (k : Nat) (A0 : Option Addr) (c0 : Nat) (l0 : List ByteArray) (A1 : Option Addr) (c1 : Nat) (l1 : List ByteArray) (r : Bool) (w : World) (hr0 : Kd.C Kd.string w A0 l0.length l0) (hc0 : l0.length ≤ c0) (hr1 : Kd.C Kd.string w A1 l1.length l1) (hc1 : l1.length ≤ c1) (h : commute_apart.f k l0 l1 = some r) :
  Calls Tryz.prog 150 #[.slice A0 l0.length c0,.slice A1 l1.length c1] w fun e w' => e = .returned (.bool r) ∧ Drawn0 w w':=by
 have HR0:=Aside0.mk hr0
 have HC0:=Aside0.mk hc0
 clear hr0 hc0
 have HR1:=Aside0.mk hr1
 have HC1:=Aside0.mk hc1
 clear hr1 hc1
 have H : (commute_apart.l0 k l1 l0 (l0.length : Int) 0) = some r:=h
 clear h
 have H':=Aside0.mk H
 clear H
 go_enter Tryz.func150,Tryz.ntmps150
 go_wp2
 go_loopg [11] k (fun kq v11 w' => ∃ (x11_1 : Int),v11 = .int .i64 x11_1 ∧ Aside0 (commute_apart.l0 kq l1 l0 (l0.length : Int) x11_1 = some r) ∧ Aside0 (kq ≤ k) ∧ Drawn0 w w')
 case atStart => exact ⟨(0),(by first | rfl | (simp; done) | (simp [*]; done)),H',⟨Nat.le_refl _⟩,by repeat (first | exact Drawn0.refl _ | apply Drawn0.step)⟩
 case round =>
  clear H'
  try clear c1
  try clear p2
  obtain ⟨x11_1,rfl,HA,HK1,⟨m1,rfl⟩⟩:=hrel
  cases gk with
  | zero => exact absurd HA.out (by simp [commute_apart.l0])
  | succ k1 =>
   have H:=HA.out
   clear HA
   simp only [commute_apart.l0] at H
   by_cases c3 : x11_1 < (l0.length : Int)
   ·rw [if_pos c3] at H
    have c3b0 : decide (x11_1 < (l0.length : Int)) = true:=decide_eq_true c3
    clear c3
    by_cases c4 : 0 ≤ x11_1
    ·rw [if_pos c4] at H
     have c4b0 : decide (0 ≤ x11_1) = true:=decide_eq_true c4
     clear c4
     by_cases c5 : x11_1 < (l0.length : Int)
     ·rw [if_pos c5] at H
      have c5b0 : decide (x11_1 < (l0.length : Int)) = true:=decide_eq_true c5
      clear c5
      have H':=Aside0.mk H
      clear H
      have p170 : 0 ≤ (x11_1 : Int):=of_decide_eq_true (by first | (with_reducible assumption) | assumption)
      have q170 : x11_1 < (l0.length : Int):=of_decide_eq_true (by first | (with_reducible assumption) | assumption)
      obtain ⟨ad170,e170,hx170_0⟩:=Kd.at_string HR0.out x11_1 p170 q170
      cases e170
      replace p170:=eq_true p170
      replace q170:=eq_true q170
      go_wp2
      go_loopg [17] k1 (fun kq v17 w' => ∃ (x17_2 : Int),v17 = .int .i64 x17_2 ∧ Aside0 (commute_apart.l1 kq l1 (rdOf ByteArray.empty l0 x11_1) l0 (l0.length : Int) x11_1 l1 (l1.length : Int) x17_2 = some r) ∧ Aside0 (kq ≤ k1) ∧ Drawn0 w w')
      case atStart => exact ⟨(0),(by first | rfl | (simp; done) | (simp [*]; done)),H',⟨Nat.le_refl _⟩,by repeat (first | exact Drawn0.refl _ | apply Drawn0.step)⟩
      case round =>
       clear H'
       try clear c1
       try clear p1
       try clear q1
       try clear hx1
       try clear p2
       try clear c3
       try clear c3b0
       try clear c4
       try clear c4b0
       try clear c5
       try clear c5b0
       try clear hx170_0
       try clear p170
       try clear p2
       try clear q170
       obtain ⟨x17_2,rfl,HA,HK2,⟨m2,rfl⟩⟩:=hrel
       cases gk with
       | zero => exact absurd HA.out (by simp [commute_apart.l1])
       | succ k2 =>
        have H:=HA.out
        clear HA
        simp only [commute_apart.l1] at H
        by_cases c6 : x17_2 < (l1.length : Int)
        ·rw [if_pos c6] at H
         have c6b0 : decide (x17_2 < (l1.length : Int)) = true:=decide_eq_true c6
         clear c6
         by_cases c7 : 0 ≤ x17_2
         ·rw [if_pos c7] at H
          have c7b0 : decide (0 ≤ x17_2) = true:=decide_eq_true c7
          clear c7
          by_cases c8 : x17_2 < (l1.length : Int)
          ·rw [if_pos c8] at H
           have c8b0 : decide (x17_2 < (l1.length : Int)) = true:=decide_eq_true c8
           clear c8
           replace H:=Option.bind_eq_some_iff.mp H
           obtain ⟨t172,A90,H⟩:=H
           replace H : (if t172 = true then (commute_apart.l1 k2 l1 (rdOf ByteArray.empty l0 x11_1) l0 (l0.length : Int) x11_1 l1 (l1.length : Int) (wrap64 (x17_2 + 1))) else (some false)) = some r:=H
           have A9:=Aside0.mk A90
           clear A90
           by_cases c10 : t172 = true
           ·subst c10
            have H1 : (commute_apart.l1 k2 l1 (rdOf ByteArray.empty l0 x11_1) l0 (l0.length : Int) x11_1 l1 (l1.length : Int) (wrap64 (x17_2 + 1))) = some r:=by rw [if_pos rfl] at H; exact H
            clear H
            have H:=H1
            clear H1
            have H':=Aside0.mk H
            clear H
            have p171 : 0 ≤ (x17_2 : Int):=of_decide_eq_true (by first | (with_reducible assumption) | assumption)
            have q171 : x17_2 < (l1.length : Int):=of_decide_eq_true (by first | (with_reducible assumption) | assumption)
            obtain ⟨ad171,e171,hx171_0⟩:=Kd.at_string HR1.out x17_2 p171 q171
            cases e171
            replace p171:=eq_true p171
            replace q171:=eq_true q171
            go_wp2_with (first | ((with_reducible refine gate_callee (f:=68) rfl ?_); refine goesL_ (some 23) rfl rfl Tryz.func68 (by kernel_rfl) rfl #[.string (rdOf ByteArray.empty l0 x11_1),.string (rdOf ByteArray.empty l1 x17_2)] rfl (by (try simp only [List.map_toArray,List.map_cons,List.map_nil]); first | done | rfl | (simp only [List.length_drop,List.length_take]; rfl)) ?_; (with_reducible refine (path_Apart.calls (rdOf ByteArray.empty l0 x11_1) (rdOf ByteArray.empty l1 x17_2) true _ A9.out).mono ?_); rintro e w' ⟨rfl,⟨nd,rfl⟩⟩; refine ⟨_,rfl,?_⟩))
            go_roundg k2
            case measure => have:=HK1.out; have:=HK2.out; omega
            case rel => exact ⟨(wrap64 (x17_2 + 1)),(by first | rfl | (simp; done) | (simp [*]; done)),H',⟨by have:=HK1.out; have:=HK2.out; omega⟩,by repeat (first | exact Drawn0.refl _ | apply Drawn0.step)⟩
           ·replace c10:=Bool.eq_false_iff.mpr c10
            subst c10
            have H1 : (some false) = some r:=by rw [if_neg (show ¬ (false = true) by decide)] at H; exact H
            clear H
            have H:=H1
            clear H1
            obtain rfl:=Option.some.inj H
            have p171 : 0 ≤ (x17_2 : Int):=of_decide_eq_true (by first | (with_reducible assumption) | assumption)
            have q171 : x17_2 < (l1.length : Int):=of_decide_eq_true (by first | (with_reducible assumption) | assumption)
            obtain ⟨ad171,e171,hx171_0⟩:=Kd.at_string HR1.out x17_2 p171 q171
            cases e171
            replace p171:=eq_true p171
            replace q171:=eq_true q171
            go_wp2_with (first | ((with_reducible refine gate_callee (f:=68) rfl ?_); refine goesL_ (some 23) rfl rfl Tryz.func68 (by kernel_rfl) rfl #[.string (rdOf ByteArray.empty l0 x11_1),.string (rdOf ByteArray.empty l1 x17_2)] rfl (by (try simp only [List.map_toArray,List.map_cons,List.map_nil]); first | done | rfl | (simp only [List.length_drop,List.length_take]; rfl)) ?_; (with_reducible refine (path_Apart.calls (rdOf ByteArray.empty l0 x11_1) (rdOf ByteArray.empty l1 x17_2) false _ A9.out).mono ?_); rintro e w' ⟨rfl,⟨nd,rfl⟩⟩; refine ⟨_,rfl,?_⟩))
            go_ret
            exact ⟨by first | rfl | (simp; done) | (simp [*]; done),by repeat (first | exact Drawn0.refl _ | apply Drawn0.step)⟩
          ·rw [if_neg c8] at H
           exact absurd H (by simp)
         ·rw [if_neg c7] at H
          exact absurd H (by simp)
        ·rw [if_neg c6] at H
         have c6b0 : decide (x17_2 < (l1.length : Int)) = false:=decide_eq_false c6
         clear c6
         have H':=Aside0.mk H
         clear H
         go_wp2
         go_roundg k2
         case measure => have:=HK1.out; have:=HK2.out; omega
         case rel => exact ⟨(wrap64 (x11_1 + 1)),(by first | rfl | (simp; done) | (simp [*]; done)),H',⟨by have:=HK1.out; have:=HK2.out; omega⟩,by repeat (first | exact Drawn0.refl _ | apply Drawn0.step)⟩
     ·rw [if_neg c5] at H
      exact absurd H (by simp)
    ·rw [if_neg c4] at H
     exact absurd H (by simp)
   ·rw [if_neg c3] at H
    have c3b0 : decide (x11_1 < (l0.length : Int)) = false:=decide_eq_false c3
    clear c3
    obtain rfl:=Option.some.inj H
    go_wp2
    go_ret
    exact ⟨by first | rfl | (simp; done) | (simp [*]; done),by repeat (first | exact Drawn0.refl _ | apply Drawn0.step)⟩

-- NOT PRINTED: function 107 (commute_paths)

-- NOT PRINTED: function 84 (commute_still)

-- NOT PRINTED: function 85 (commute_beside)

-- NOT PRINTED: function 86 (commute_both)

-- NOT PRINTED: function 52 (commute_rules)

def commute_class.f (a0_0 : Int) (a0_1 : ByteArray) (a0_2 : ByteArray) (a0_3 : ByteArray) (a0_4 : Int) (l0_5 : List ByteArray) (l0_6 : List ByteArray) : Option (Int):=if a0_0 = 10 then (some 2) else (if a0_0 ≥ 7 then (some 1) else (some 0))
set_option maxHeartbeats 8000000 in
set_option maxRecDepth 100000 in
theorem commute_class.calls (a0_0 : Int) (a0_1 : ByteArray) (a0_2 : ByteArray) (a0_3 : ByteArray) (a0_4 : Int) (A0_5 : Option Addr) (c0_5 : Nat) (l0_5 : List ByteArray) (A0_6 : Option Addr) (c0_6 : Nat) (l0_6 : List ByteArray) (r : Int) (w : World) (hr0_5 : Kd.C Kd.string w A0_5 l0_5.length l0_5) (hc0_5 : l0_5.length ≤ c0_5) (hr0_6 : Kd.C Kd.string w A0_6 l0_6.length l0_6) (hc0_6 : l0_6.length ≤ c0_6) (h : commute_class.f a0_0 a0_1 a0_2 a0_3 a0_4 l0_5 l0_6 = some r) :
  Calls Tryz.prog 79 #[.agg #[.int .i64 a0_0,.string a0_1,.string a0_2,.string a0_3,.int .i64 a0_4,.slice A0_5 l0_5.length c0_5,.slice A0_6 l0_6.length c0_6]] w fun e w' => e = .returned (.int .i64 r) ∧ Below w.heap.size w w':=by
 have hu24:=Tryz.underlying25
 have HR0_5:=Aside0.mk hr0_5
 have HC0_5:=Aside0.mk hc0_5
 clear hr0_5 hc0_5
 have HR0_6:=Aside0.mk hr0_6
 have HC0_6:=Aside0.mk hc0_6
 clear hr0_6 hc0_6
 have HB:=Aside0.mk (Below.refl w.heap.size w)
 have H : (if a0_0 = 10 then (some 2) else (if a0_0 ≥ 7 then (some 1) else (some 0))) = some r:=h
 clear h
 by_cases c2 : a0_0 = 10
 ·rw [if_pos c2] at H
  have c2b0 : (a0_0 == 10) = true:=beq_iff_eq.mpr c2
  have c2b1 : (a0_0 != 10) = false:=bne_eq_false_iff_eq.mpr c2
  clear c2
  obtain rfl:=Option.some.inj H
  go_enter Tryz.func79,Tryz.ntmps79
  go_wp2_with (first | ((with_reducible refine gate_dst (N:=1) rfl ?_); refine box_event ?hg (N:=1) ?hd (cs:=#[.int .i64 a0_0,.string a0_1,.string a0_2,.string a0_3,.int .i64 a0_4,.slice A0_5 l0_5.length c0_5,.slice A0_6 l0_6.length c0_6]) (t:=25) ?hr ?_; (case hd => rfl); (case hg => rfl); (case hr => first | (go_simp; done) | (go_simp; rfl)); intro gb179 hg w3 hbox hb; have n0_:=Aside0.mk (below_step (by repeat (first | (with_reducible first | exact HB.out | apply below_alloc | apply pw_below_drewN | apply below_drew1) | exact HB.out)) hb); have n1_:=Aside0.mk (hbox); have n2_:=Aside0.mk ((by rw [hg]; exact (below_size (by repeat (first | (with_reducible first | exact HB.out | apply below_alloc | apply pw_below_drewN | apply below_drew1) | exact HB.out))) : w.heap.size ≤ gb179)); have n3_:=Aside0.mk ((by rw [hg]; exact (below_size (by repeat (first | (with_reducible first | exact HB.out | apply below_alloc | apply pw_below_drewN | apply below_drew1) | exact HB.out))) : w.heap.size ≤ gb179)); clear HB; have HB:=n0_; have BK179:=n1_; have GW179:=n2_; have GE179:=n3_; clear n0_ n1_ n2_ n3_; clear hb hbox hg; have hcz4_0 : w3.cell? ⟨gb179,0,none⟩ = some (.int .i64 a0_0):=(blk_cell BK179.out 0).trans rfl; have hcz4_1 : w3.cell? ⟨gb179,1,none⟩ = some (.string a0_1):=(blk_cell BK179.out 1).trans rfl; have hcz4_2 : w3.cell? ⟨gb179,2,none⟩ = some (.string a0_2):=(blk_cell BK179.out 2).trans rfl; have hcz4_3 : w3.cell? ⟨gb179,3,none⟩ = some (.string a0_3):=(blk_cell BK179.out 3).trans rfl; have hcz4_4 : w3.cell? ⟨gb179,4,none⟩ = some (.int .i64 a0_4):=(blk_cell BK179.out 4).trans rfl; have hcz4_5 : w3.cell? ⟨gb179,5,none⟩ = some (.slice A0_5 l0_5.length c0_5):=(blk_cell BK179.out 5).trans rfl; have hcz4_6 : w3.cell? ⟨gb179,6,none⟩ = some (.slice A0_6 l0_6.length c0_6):=(blk_cell BK179.out 6).trans rfl; have hfz4_0:=blk_frozen BK179.out 0; have hfz4_1:=blk_frozen BK179.out 1; have hfz4_2:=blk_frozen BK179.out 2; have hfz4_3:=blk_frozen BK179.out 3; have hfz4_4:=blk_frozen BK179.out 4; have hfz4_5:=blk_frozen BK179.out 5; have hfz4_6:=blk_frozen BK179.out 6))
  go_ret
  exact ⟨by first | rfl | (simp [errW_none,errW_some] <;> rfl) | (simp [*,errW_none,errW_some] <;> rfl),by repeat (first | (with_reducible first | exact HB.out | apply below_alloc | apply pw_below_drewN | apply below_drew1 | refine below_set ?_ GE179.out) | exact HB.out)⟩
 ·rw [if_neg c2] at H
  have c2b0 : (a0_0 == 10) = false:=beq_eq_false_iff_ne.mpr c2
  have c2b1 : (a0_0 != 10) = true:=bne_iff_ne.mpr c2
  by_cases c5 : a0_0 ≥ 7
  ·rw [if_pos c5] at H
   have c5b0 : decide (7 ≤ a0_0) = true:=decide_eq_true c5
   clear c5
   obtain rfl:=Option.some.inj H
   go_enter Tryz.func79,Tryz.ntmps79
   go_wp2_with (first | ((with_reducible refine gate_dst (N:=1) rfl ?_); refine box_event ?hg (N:=1) ?hd (cs:=#[.int .i64 a0_0,.string a0_1,.string a0_2,.string a0_3,.int .i64 a0_4,.slice A0_5 l0_5.length c0_5,.slice A0_6 l0_6.length c0_6]) (t:=25) ?hr ?_; (case hd => rfl); (case hg => rfl); (case hr => first | (go_simp; done) | (go_simp; rfl)); intro gb179 hg w6 hbox hb; have n0_:=Aside0.mk (below_step (by repeat (first | (with_reducible first | exact HB.out | apply below_alloc | apply pw_below_drewN | apply below_drew1) | exact HB.out)) hb); have n1_:=Aside0.mk (hbox); have n2_:=Aside0.mk ((by rw [hg]; exact (below_size (by repeat (first | (with_reducible first | exact HB.out | apply below_alloc | apply pw_below_drewN | apply below_drew1) | exact HB.out))) : w.heap.size ≤ gb179)); have n3_:=Aside0.mk ((by rw [hg]; exact (below_size (by repeat (first | (with_reducible first | exact HB.out | apply below_alloc | apply pw_below_drewN | apply below_drew1) | exact HB.out))) : w.heap.size ≤ gb179)); clear HB; have HB:=n0_; have BK179:=n1_; have GW179:=n2_; have GE179:=n3_; clear n0_ n1_ n2_ n3_; clear hb hbox hg; have hcz7_0 : w6.cell? ⟨gb179,0,none⟩ = some (.int .i64 a0_0):=(blk_cell BK179.out 0).trans rfl; have hcz7_1 : w6.cell? ⟨gb179,1,none⟩ = some (.string a0_1):=(blk_cell BK179.out 1).trans rfl; have hcz7_2 : w6.cell? ⟨gb179,2,none⟩ = some (.string a0_2):=(blk_cell BK179.out 2).trans rfl; have hcz7_3 : w6.cell? ⟨gb179,3,none⟩ = some (.string a0_3):=(blk_cell BK179.out 3).trans rfl; have hcz7_4 : w6.cell? ⟨gb179,4,none⟩ = some (.int .i64 a0_4):=(blk_cell BK179.out 4).trans rfl; have hcz7_5 : w6.cell? ⟨gb179,5,none⟩ = some (.slice A0_5 l0_5.length c0_5):=(blk_cell BK179.out 5).trans rfl; have hcz7_6 : w6.cell? ⟨gb179,6,none⟩ = some (.slice A0_6 l0_6.length c0_6):=(blk_cell BK179.out 6).trans rfl; have hfz7_0:=blk_frozen BK179.out 0; have hfz7_1:=blk_frozen BK179.out 1; have hfz7_2:=blk_frozen BK179.out 2; have hfz7_3:=blk_frozen BK179.out 3; have hfz7_4:=blk_frozen BK179.out 4; have hfz7_5:=blk_frozen BK179.out 5; have hfz7_6:=blk_frozen BK179.out 6))
   go_ret
   exact ⟨by first | rfl | (simp [errW_none,errW_some] <;> rfl) | (simp [*,errW_none,errW_some] <;> rfl),by repeat (first | (with_reducible first | exact HB.out | apply below_alloc | apply pw_below_drewN | apply below_drew1 | refine below_set ?_ GE179.out) | exact HB.out)⟩
  ·rw [if_neg c5] at H
   have c5b0 : decide (7 ≤ a0_0) = false:=decide_eq_false c5
   clear c5
   obtain rfl:=Option.some.inj H
   go_enter Tryz.func79,Tryz.ntmps79
   go_wp2_with (first | ((with_reducible refine gate_dst (N:=1) rfl ?_); refine box_event ?hg (N:=1) ?hd (cs:=#[.int .i64 a0_0,.string a0_1,.string a0_2,.string a0_3,.int .i64 a0_4,.slice A0_5 l0_5.length c0_5,.slice A0_6 l0_6.length c0_6]) (t:=25) ?hr ?_; (case hd => rfl); (case hg => rfl); (case hr => first | (go_simp; done) | (go_simp; rfl)); intro gb179 hg w8 hbox hb; have n0_:=Aside0.mk (below_step (by repeat (first | (with_reducible first | exact HB.out | apply below_alloc | apply pw_below_drewN | apply below_drew1) | exact HB.out)) hb); have n1_:=Aside0.mk (hbox); have n2_:=Aside0.mk ((by rw [hg]; exact (below_size (by repeat (first | (with_reducible first | exact HB.out | apply below_alloc | apply pw_below_drewN | apply below_drew1) | exact HB.out))) : w.heap.size ≤ gb179)); have n3_:=Aside0.mk ((by rw [hg]; exact (below_size (by repeat (first | (with_reducible first | exact HB.out | apply below_alloc | apply pw_below_drewN | apply below_drew1) | exact HB.out))) : w.heap.size ≤ gb179)); clear HB; have HB:=n0_; have BK179:=n1_; have GW179:=n2_; have GE179:=n3_; clear n0_ n1_ n2_ n3_; clear hb hbox hg; have hcz9_0 : w8.cell? ⟨gb179,0,none⟩ = some (.int .i64 a0_0):=(blk_cell BK179.out 0).trans rfl; have hcz9_1 : w8.cell? ⟨gb179,1,none⟩ = some (.string a0_1):=(blk_cell BK179.out 1).trans rfl; have hcz9_2 : w8.cell? ⟨gb179,2,none⟩ = some (.string a0_2):=(blk_cell BK179.out 2).trans rfl; have hcz9_3 : w8.cell? ⟨gb179,3,none⟩ = some (.string a0_3):=(blk_cell BK179.out 3).trans rfl; have hcz9_4 : w8.cell? ⟨gb179,4,none⟩ = some (.int .i64 a0_4):=(blk_cell BK179.out 4).trans rfl; have hcz9_5 : w8.cell? ⟨gb179,5,none⟩ = some (.slice A0_5 l0_5.length c0_5):=(blk_cell BK179.out 5).trans rfl; have hcz9_6 : w8.cell? ⟨gb179,6,none⟩ = some (.slice A0_6 l0_6.length c0_6):=(blk_cell BK179.out 6).trans rfl; have hfz9_0:=blk_frozen BK179.out 0; have hfz9_1:=blk_frozen BK179.out 1; have hfz9_2:=blk_frozen BK179.out 2; have hfz9_3:=blk_frozen BK179.out 3; have hfz9_4:=blk_frozen BK179.out 4; have hfz9_5:=blk_frozen BK179.out 5; have hfz9_6:=blk_frozen BK179.out 6))
   go_ret
   exact ⟨by first | rfl | (simp [errW_none,errW_some] <;> rfl) | (simp [*,errW_none,errW_some] <;> rfl),by repeat (first | (with_reducible first | exact HB.out | apply below_alloc | apply pw_below_drewN | apply below_drew1 | refine below_set ?_ GE179.out) | exact HB.out)⟩

-- NOT PRINTED: function 25 (commute_Commute)

-- NOT PRINTED: function 26 (commute_Past)

-- NOT PRINTED: function 23 (counterpanelaw10_head)
end Go.Proofs.YthhohbidjhcjeaaGreatDoor.Q
namespace Go.Proofs.YthhohbidjhcjeaaGreatDoor.H
open Go.RowKit Go.Shelf Go.Proofs.YthhohbidjhcjeaaGreatDoorW.PrintWords Go.Proofs.YthhohbidjhcjeaaGreatDoorW.PrintLast Go.Proofs.YthhohbidjhcjeaaGreatDoorW.PrintMore
open Go.Proofs.YthhohbidjhcjeaaGreatDoor.Q Go.Proofs.YthhohbidjhcjeaaGreatDoor.Pl
set_option linter.unusedVariables false
set_option linter.unusedSimpArgs false
set_option maxHeartbeats 8000000 in
set_option maxRecDepth 1000000 in
theorem hunk_at (w : World) (p : S25) (A5 : Option Addr) (c5 : Nat) (A6 : Option Addr) (c6 : Nat) (x : S41) (X : Option Addr) (c g o : Nat) (cur : Array Value) (W : World) (h7 : p.f0 = 7) (ha0 : 0 ≤ p.f4) (ha1 : p.f4 ≤ 1073741824)
  (g5 : Kd.string.C w A5 p.f5.length p.f5) (l5 : p.f5.length ≤ c5) (g6 : Kd.string.C w A6 p.f6.length p.f6) (l6 : p.f6.length ≤ c6) (n5 : p.f5.length ≤ 1000000000) (n6 : p.f6.length ≤ 1000000000) (nx : x.f2.length ≤ 1000000000)
  (hB : Below w.heap.size w W) (hg0 : w.heap.size ≤ g) (hg : W.heap[g]? = some (.cells cur 41 (0,0))) (hx : Ent cur o x X c) (rx : Re w x X c) :
  Calls Tryz.prog 55 #[.pointer (some ⟨g,o,none⟩),.agg #[.int .i64 p.f0,.string p.f1,.string p.f2,.string p.f3,.int .i64 p.f4,.slice A5 p.f5.length c5,.slice A6 p.f6.length c6]] W (Chg w p x g o cur):=by
 obtain ⟨a,ha⟩ : ∃ a : Nat,p.f4 = (a : Int):=⟨p.f4.toNat,by omega⟩
 have hgw : g < W.heap.size:=blk_lt hg
 obtain ⟨W1,hW1⟩ : ∃ W1,W1 = W.alloc (.cells #[.int .i64 p.f0,.string p.f1,.string p.f2,.string p.f3,.int .i64 p.f4,.slice A5 p.f5.length c5,.slice A6 p.f6.length c6] 25):=⟨_,rfl⟩
 have hB1 : Below w.heap.size w W1:=by rw [hW1]; exact below_alloc hB _
 have hg1 : W1.heap[g]? = some (.cells cur 41 (0,0)):=by rw [hW1]; exact blk_alloc hg _
 obtain ⟨b0,b1,b2,b3,b4,b5,b6⟩:=cells7 (show W1.heap[W.heap.size]? = _ by rw [hW1]; exact blk_new W (.cells #[.int .i64 p.f0,.string p.f1,.string p.f2,.string p.f3,.int .i64 p.f4,.slice A5 p.f5.length c5,.slice A6 p.f6.length c6] 25))
 obtain ⟨c0,c1,c2,c3⟩:=ent_cells hg1 hx
 have hc : changeV x p = (hunkV x.f2 p.f4 p.f5 p.f6).map (fun l => { x with f2:=l }):=by unfold changeV; rw [if_pos h7]
 have hCall:=diffApply_at x.f2 p.f5 p.f6 X c a A5 c5 A6 c6 W1.drew (Kd.C_below rx.g (below_drew hB1)) rx.l (Kd.C_below g5 (below_drew hB1)) l5 (Kd.C_below g6 (below_drew hB1)) l6 (by omega) nx n5 n6
 rw [← ha] at hCall
 have hend : ∀ (r : Option (List ByteArray)) (W2 : World) (Y : Option Addr) (d : Nat),hunkV x.f2 p.f4 p.f5 p.f6 = r → Below W1.drew.heap.size W1.drew W2 → (∀ M,r = some M → RowS W1.drew W2 (.slice Y M.length d) M) → Chg w p x g o cur (.returned (.bool r.isSome)) (W2.setCell ⟨g,o + 2,none⟩ (.slice Y (r.getD []).length d)):=by
  intro r W2 Y d hr hb2 hM
  have hB2 : Below w.heap.size w W2:=(below_drew hB1).trans (hb2.mono (below_drew hB1).size)
  have hg2 : W2.heap[g]? = some (.cells cur 41 (0,0)):=blk_below (blk_drew hg1) hb2
  have hb : Below w.heap.size w (W2.setCell ⟨g,o + 2,none⟩ (.slice Y (r.getD []).length d)):=below_set hB2 hg0
  refine ⟨by rw [hc,hr]; cases r <;> rfl,hb,_,blk_set hg2 (o + 2) _,same_set o 2 (by omega) _ _,fun y hy => ?_⟩
  rw [hc,hr] at hy
  obtain ⟨M,hM1,rfl⟩:=Option.map_eq_some_iff.mp hy
  subst hM1
  have hrow:=hM M rfl
  have hrow2 : RowS W1.drew (W2.setCell ⟨g,o + 2,none⟩ (.slice Y M.length d)) (.slice Y M.length d) M:=OwnRow.set_ hrow hg2 (by decide) _ _
  obtain ⟨Y',d',he,hd,hcm⟩:=hrow2.C
  injection he with e1 e2 e3
  subst e1
  subst e3
  exact ⟨Y,d,ent_set2 hx M Y d,hd,hcm⟩
 have HEND:=Aside0.mk hend
 obtain ⟨r,hr⟩ : ∃ r,hunkV x.f2 p.f4 p.f5 p.f6 = r:=⟨_,rfl⟩
 rw [hr] at hCall
 have HR:=Aside0.mk hr
 have f2:=blk_frozen hg1 (o + 2)
 have HG1:=Aside0.mk hg1
 clear hend hc rx hB hg0 hg h7 ha0 ha1 ha g5 l5 g6 l6 n5 n6 nx hr b0 b1 b2 b3 c0 c1 c3 hB1
 subst hW1
 go_enter Tryz.func55,Tryz.ntmps55
 go_wp2
 go_region_held3 (fun U => U.cell? ⟨g,o + 2,none⟩ = some (.slice X x.f2.length c) ∧ U.cell? ⟨W.heap.size,4,none⟩ = some (.int .i64 p.f4) ∧ U.cell? ⟨W.heap.size,5,none⟩ = some (.slice A5 p.f5.length c5) ∧ U.cell? ⟨W.heap.size,6,none⟩ = some (.slice A6 p.f6.length c6)) (first | exact ⟨c2,b4,b5,b6⟩ | exact ⟨pw_cell_below hb c2,pw_cell_below hb b4,pw_cell_below hb b5,pw_cell_below hb b6⟩) ((go_at_call 101; refine hCall.mono ?_; rintro e w' ⟨hb,Y,d,rfl,hM⟩))
 all_goals
  have f2':=blk_frozen (blk_below (blk_drew HG1.out) hb) (o + 2)
  have c2':=pw_cell_below hb c2
  go_wp2
  go_ret
  exact HEND.out _ _ _ _ HR.out hb hM
theorem reps_set {w W' : World} {l : List S41} {inner : List Value} {cur cur' : Array Value} {i : Nat} {y : S41} {Y : Option Addr} {d : Nat} (hr : Reps (Rw w) 4 l inner) (hin : cur.toList.take (l.length * 4) = inner) (hsz : l.length * 4 ≤ cur.size) (hb : Below w.heap.size w W')
  (hs : SameBut (i * 4) cur cur') (hi : i < l.length) (he : Ent cur' (i * 4) y Y d) (ry : Re W' y Y d) : Reps (Rw W') 4 (l.set i y) (cur'.toList.take (l.length * 4)):=by
 obtain ⟨hs1,hs2⟩:=hs
 have hcl : cur'.toList.length = cur.size:=by rw [Array.length_toList,hs1]
 refine ⟨by rw [List.length_take,hcl,List.length_set]; omega,fun j q hq => ?_⟩
 have hj : j < l.length:=by
  have:=(List.getElem?_eq_some_iff.1 hq).1
  rwa [List.length_set] at this
 rw [List.getElem?_set] at hq
 by_cases hij : i = j
 ·subst hij
  rw [if_pos rfl,if_pos hi] at hq
  have:=Option.some.inj hq
  subst this
  refine ⟨Y,d,?_,ry⟩
  apply List.ext_getElem?
  intro k
  rw [List.getElem?_take,List.getElem?_drop,List.getElem?_take]
  match k with
  | 0 => rw [if_pos (by omega),if_pos (by omega)]; simpa using he.c0
  | 1 => rw [if_pos (by omega),if_pos (by omega)]; simpa using he.c1
  | 2 => rw [if_pos (by omega),if_pos (by omega)]; simpa using he.c2
  | 3 => rw [if_pos (by omega),if_pos (by omega)]; simpa using he.c3
  | _ + 4 => rw [if_neg (by omega)]; simp
 ·rw [if_neg hij] at hq
  obtain ⟨X,c,e,rx⟩:=hr.2 j q hq
  refine ⟨X,c,?_,rx.later hb⟩
  rw [← e,← hin]
  apply List.ext_getElem?
  intro k
  rw [List.getElem?_take,List.getElem?_drop,List.getElem?_take,List.getElem?_take,List.getElem?_drop,List.getElem?_take]
  by_cases hk : k < 4
  ·rw [if_pos hk,if_pos hk]
   by_cases hk2 : j * 4 + k < l.length * 4
   ·rw [if_pos hk2,if_pos hk2]
    have:=hs2 (j * 4 + k) (by omega)
    simpa using this
   ·rw [if_neg hk2,if_neg hk2]
  ·rw [if_neg hk,if_neg hk]
set_option maxHeartbeats 8000000 in
set_option maxRecDepth 1000000 in
theorem changing55_at (l : List S41) (A : Option Addr) (c : Nat) (p : S25) (v5 v6 : Value) (B : Nat) (w : World) (h5 : v5.oneCell' = true) (h6 : v6.oneCell' = true)
  (hr : Kd.C k41 w A l.length l) (hl : l.length ≤ 1000000000) (hs : Srt l) (hk0 : 0 ≤ p.f0) (hk1 : p.f0 ≤ 10) (hF : w.heap[B]? = some (.cells #[.func (.func 55) #[] #[]] 76 (0,0)))
  (hchg : ∀ (u : World) (x : S41) (X : Option Addr) (d g o : Nat) (cur : Array Value) (W : World),findV l p.f1 = some x → x.f1 = kindV p.f0 → Below w.heap.size w u → Below u.heap.size u W → u.heap.size ≤ g → W.heap[g]? = some (.cells cur 41 (0,0)) → Ent cur o x X d → Re u x X d →
   Calls Tryz.prog 55 #[.pointer (some ⟨g,o,none⟩),.agg #[.int .i64 p.f0,.string p.f1,.string p.f2,.string p.f3,.int .i64 p.f4,v5,v6]] W (Chg u p x g o cur)) :
  Calls Tryz.prog 100 #[.slice A l.length c,.agg #[.int .i64 p.f0,.string p.f1,.string p.f2,.string p.f3,.int .i64 p.f4,v5,v6],.pointer (some ⟨B,0,none⟩)] w (Ans w (changeL l p) (changeE l p)):=by
 have eg : ∀ args w,(callFunc 55 args).run Tryz.prog w = .ok (.enter 55 args) w:=enters_of Tryz.func55 (by kernel_rfl) rfl
 have HB : Aside0 (Below w.heap.size w (w.alloc (.cells #[.int .i64 p.f0,.string p.f1,.string p.f2,.string p.f3,.int .i64 p.f4,v5,v6] 25))):=⟨below_alloc (Below.refl _ _) _⟩
 have HX : Aside0 ((w.alloc (.cells #[.int .i64 p.f0,.string p.f1,.string p.f2,.string p.f3,.int .i64 p.f4,v5,v6] 25)).heap[w.heap.size]? = some (.cells #[.int .i64 p.f0,.string p.f1,.string p.f2,.string p.f3,.int .i64 p.f4,v5,v6] 25 (0,0))):=⟨blk_new _ _⟩
 have h1:=there_at l A c p.f0 p.f1 (.string p.f2) (.string p.f3) (.int .i64 p.f4) v5 v6 _ rfl rfl rfl h5 h6 (Kd.C_below hr HB.out) hl hs hk0 hk1
 obtain ⟨b0,b1,b2,b3,b4,b5,b6⟩:=cells7 HX.out
 have HR:=Aside0.mk hr
 have HS:=Aside0.mk hs
 have HL:=Aside0.mk hl
 have HC:=Aside0.mk hchg
 have HF:=Aside0.mk hF
 obtain ⟨t,ht⟩ : ∃ t,thereV l p.f1 p.f0 = t:=⟨_,rfl⟩
 have HT:=Aside0.mk ht
 rw [ht] at h1
 clear hr hs hl ht hchg hF hk0 hk1
 by_cases h0 : t = 0
 ·subst h0
  obtain ⟨x,hfx,hkx⟩:=there_zero.mp HT.out
  obtain ⟨hx,hlo⟩:=(has_find HS.out p.f1).2 x hfx
  obtain ⟨j,hj⟩ : ∃ j,lowB l p.f1 = j:=⟨_,rfl⟩
  have hE : changeE l p = if (changeV x p).isSome then 0 else 81:=by
   unfold changeE thingAt
   rw [HT.out,if_pos rfl,hfx,Option.getD_some]
  have hLL : ∀ y,changeV x p = some y → changeL l p = l.set j y:=by
   intro y hy
   rw [change_L hfx hy]
   unfold setL
   rw [hj]
  rw [hj] at hx hlo h1
  rw [hE]
  have FX:=Aside0.mk hfx
  have KX:=Aside0.mk hkx
  have LL:=Aside0.mk hLL
  have hj0 : (0 : Int) ≤ (j : Int):=by omega
  have hj1 : (j : Int) < (l.length : Int):=by omega
  clear hfx hkx hE hj hLL
  obtain ⟨r,hrr⟩ : ∃ r,(changeV x p).isSome = r:=⟨_,rfl⟩
  rw [hrr]
  have RR:=Aside0.mk hrr
  obtain ⟨err,herr⟩ : ∃ err : Int,(if r = true then (0 : Int) else 81) = err:=⟨_,rfl⟩
  rw [herr]
  have ER:=Aside0.mk herr
  clear hrr herr
  go_enter Tryz.func100,Tryz.ntmps100
  go_upto_region 4 with (go_at_call 95; refine h1.mono ?_; rintro e w1 ⟨⟨i,rfl,hi⟩,hb⟩)
  obtain rfl : i = j:=hi trivial
  have hB1:=Aside0.mk (HB.out.trans (hb.mono HB.out.size))
  have hX1:=Aside0.mk (blk_below HX.out hb)
  have hcl:=clone_at w1 l A c w1 (Below.refl _ _) HL.out (rows_rw (Kd.C_below HR.out hB1.out) (Below.refl _ _))
  clear b0 b1 b2 b3 b4 b5 b6 HB HX h1 hb hi
  go_upto_region 5 with (go_at_call 73; refine hcl.mono ?_; rintro e w2 ⟨v,rfl,hrow,hb2,hown⟩)
  obtain ⟨inner,⟨hlen,ho⟩,hrp⟩:=hrow
  rcases ho with ⟨rfl,hn0⟩ | ⟨g,cap,cur,rfl,hg,hh,hnc,hcm,hcs,ht⟩
  ·omega
  ·obtain ⟨X,d,hcs4,rx⟩:=hrp.2 i x (by rw [List.getElem?_eq_getElem hlo,← getD_get hlo,hx])
   have hent : Ent cur (i * 4) x X d:=by
    have key : ∀ k u,[Value.string x.f0,Value.int .i64 x.f1,Value.slice X x.f2.length d,Value.string x.f3][k]? = some u → cur[i * 4 + k]? = some u:=by
     intro k u hu
     rw [← hcs4,List.getElem?_take] at hu
     split at hu
     ·rw [List.getElem?_drop,← ht,List.getElem?_take] at hu
      split at hu
      ·simpa using hu
      ·cases hu
     ·cases hu
    exact ⟨key 0 _ rfl,key 1 _ rfl,key 2 _ rfl,key 3 _ rfl⟩
   have hBu:=hB1.out
   have hcall:=fun W (hb3 : Below w2.heap.size w2 W) => HC.out w1 x X d g (i * 4) cur W FX.out KX.out hB1.out (hb2.trans (hb3.mono hb2.size)) hg (blk_below hh hb3) hent rx
   obtain ⟨d0,d1,d2,d3,d4,d5,d6⟩:=cells7 hX1.out
   have dF:=(blk_cell (blk_below HF.out hB1.out) 0).trans (show _ = some (Value.func (.func 55) #[] #[]) from rfl)
   have DS:=Aside0.mk (And.intro dF (And.intro d0 (And.intro d1 (And.intro d2 (And.intro d3 (And.intro d4 (And.intro d5 d6)))))))
   clear d0 d1 d2 d3 d4 d5 d6 dF
   have hX2:=blk_below hX1.out hb2
   have hF2:=blk_below (blk_below HF.out hB1.out) hb2
   have cF:=(blk_cell hF2 0).trans (show _ = some (Value.func (.func 55) #[] #[]) from rfl)
   obtain ⟨b0,b1,b2,b3,b4,b5,b6⟩:=cells7 hX2
   have HB2:=Aside0.mk hb2
   have HG:=Aside0.mk hg
   have HCM:=Aside0.mk hcm
   have HCS:=Aside0.mk hcs
   have HTT:=Aside0.mk ht
   have HRP:=Aside0.mk hrp
   have HNC:=Aside0.mk hnc
   clear hcl hb2 hg hcm hcs ht hrp hnc hlen hown hX2 hF2 hh hent hcs4 rx hBu
   go_wp2
   go_region_held3 (fun U => U.cell? ⟨B,0,none⟩ = some (.func (.func 55) #[] #[]) ∧ U.cell? ⟨w.heap.size,0,none⟩ = some (.int .i64 p.f0) ∧ U.cell? ⟨w.heap.size,1,none⟩ = some (.string p.f1) ∧ U.cell? ⟨w.heap.size,2,none⟩ = some (.string p.f2) ∧ U.cell? ⟨w.heap.size,3,none⟩ = some (.string p.f3) ∧ U.cell? ⟨w.heap.size,4,none⟩ = some (.int .i64 p.f4) ∧ U.cell? ⟨w.heap.size,5,none⟩ = some v5 ∧ U.cell? ⟨w.heap.size,6,none⟩ = some v6) (first | exact ⟨cF,b0,b1,b2,b3,b4,b5,b6⟩ | exact ⟨pw_cell_below hb4 DS.out.1,pw_cell_below hb4 DS.out.2.1,pw_cell_below hb4 DS.out.2.2.1,pw_cell_below hb4 DS.out.2.2.2.1,pw_cell_below hb4 DS.out.2.2.2.2.1,pw_cell_below hb4 DS.out.2.2.2.2.2.1,pw_cell_below hb4 DS.out.2.2.2.2.2.2.1,pw_cell_below hb4 DS.out.2.2.2.2.2.2.2⟩) ((go_at_fn 55; refine (hcall _ (below_drew (Below.refl _ _))).mono ?_; rintro e w3 ⟨he,hb4,cur',hh4,hsb,hy4⟩; rw [RR.out] at he; subst he))
   all_goals
    have hB4:=Aside0.mk (hB1.out.trans (hb4.mono hB1.out.size))
    have HY:=Aside0.mk hy4
    have HH4:=Aside0.mk hh4
    have HSB:=Aside0.mk hsb
    have HB4:=Aside0.mk hb4
    clear hy4 hh4 hsb hb4 cF b0 b1 b2 b3 b4 b5 b6 hcall
    cases r with
    | false =>
     go_wp2
     go_ret2
     exact ⟨hB4.out,by have he : err = 81:=(by rw [← ER.out]; rfl); rw [he]; rfl⟩
    | true =>
     go_wp2
     go_ret2
     refine ⟨hB4.out,?_⟩
     rw [if_pos (show err = 0 by rw [← ER.out]; rfl)]
     obtain ⟨y,hy⟩:=Option.isSome_iff_exists.1 RR.out
     obtain ⟨Y,d',he,ry⟩:=HY.out y hy
     rw [LL.out y hy]
     have hlen : (l.set i y).length = l.length:=List.length_set
     have hrp2:=reps_set HRP.out HTT.out (by rw [HCS.out]; have:=HNC.out; omega) HB4.out HSB.out hlo he ry
     have hown2 : OwnRow (Rw w3) 41 4 w3 w1.heap.size (.slice (some ⟨g,0,none⟩) l.length cap) (l.set i y) :=
      ⟨_,⟨hrp2.1,Or.inr ⟨g,cap,cur',by rw [hlen],HG.out,HH4.out,by rw [hlen]; exact HNC.out,HCM.out,by rw [HSB.out.1,HCS.out],by rw [hlen]⟩⟩,hrp2⟩
     obtain ⟨A',c',he',hc',hrr⟩:=OwnRow.reads hown2
     injection he' with e1 e2 e3
     subst e1
     subst e3
     refine ⟨_,cap,by rw [hlen]; rfl,hc',?_⟩
     refine ReadsRow.imp_ hrr (Below.refl _ _) ?_
     rintro pp cl ⟨X',x',rfl,rx'⟩
     exact k41_mk w3 pp rx'.l rx'.g
 ·have hE : changeE l p = t:=by unfold changeE; rw [HT.out,if_neg h0]
  rw [hE]
  have hne : (t == 0) = false:=by simp [h0]
  have hne2 : (t != 0) = true:=by simp [h0]
  go_enter Tryz.func100,Tryz.ntmps100
  go_wp2_with (go_at_call 95; refine h1.mono ?_; rintro e w1 ⟨⟨i,rfl,hi⟩,hb⟩)
  go_ret2
  exact ⟨HB.out.trans (hb.mono HB.out.size),by rw [if_neg h0]; rfl⟩
set_option maxHeartbeats 8000000 in
set_option maxRecDepth 1000000 in
theorem changing56_at (l : List S41) (A : Option Addr) (c : Nat) (p : S25) (v5 v6 : Value) (B : Nat) (w : World) (h5 : v5.oneCell' = true) (h6 : v6.oneCell' = true)
  (hr : Kd.C k41 w A l.length l) (hl : l.length ≤ 1000000000) (hs : Srt l) (hk0 : 0 ≤ p.f0) (hk1 : p.f0 ≤ 10) (hF : w.heap[B]? = some (.cells #[.func (.func 56) #[] #[]] 76 (0,0)))
  (hchg : ∀ (u : World) (x : S41) (X : Option Addr) (d g o : Nat) (cur : Array Value) (W : World),findV l p.f1 = some x → x.f1 = kindV p.f0 → Below w.heap.size w u → Below u.heap.size u W → u.heap.size ≤ g → W.heap[g]? = some (.cells cur 41 (0,0)) → Ent cur o x X d → Re u x X d →
   Calls Tryz.prog 56 #[.pointer (some ⟨g,o,none⟩),.agg #[.int .i64 p.f0,.string p.f1,.string p.f2,.string p.f3,.int .i64 p.f4,v5,v6]] W (Chg u p x g o cur)) :
  Calls Tryz.prog 100 #[.slice A l.length c,.agg #[.int .i64 p.f0,.string p.f1,.string p.f2,.string p.f3,.int .i64 p.f4,v5,v6],.pointer (some ⟨B,0,none⟩)] w (Ans w (changeL l p) (changeE l p)):=by
 have eg : ∀ args w,(callFunc 56 args).run Tryz.prog w = .ok (.enter 56 args) w:=enters_of Tryz.func56 (by kernel_rfl) rfl
 have HB : Aside0 (Below w.heap.size w (w.alloc (.cells #[.int .i64 p.f0,.string p.f1,.string p.f2,.string p.f3,.int .i64 p.f4,v5,v6] 25))):=⟨below_alloc (Below.refl _ _) _⟩
 have HX : Aside0 ((w.alloc (.cells #[.int .i64 p.f0,.string p.f1,.string p.f2,.string p.f3,.int .i64 p.f4,v5,v6] 25)).heap[w.heap.size]? = some (.cells #[.int .i64 p.f0,.string p.f1,.string p.f2,.string p.f3,.int .i64 p.f4,v5,v6] 25 (0,0))):=⟨blk_new _ _⟩
 have h1:=there_at l A c p.f0 p.f1 (.string p.f2) (.string p.f3) (.int .i64 p.f4) v5 v6 _ rfl rfl rfl h5 h6 (Kd.C_below hr HB.out) hl hs hk0 hk1
 obtain ⟨b0,b1,b2,b3,b4,b5,b6⟩:=cells7 HX.out
 have HR:=Aside0.mk hr
 have HS:=Aside0.mk hs
 have HL:=Aside0.mk hl
 have HC:=Aside0.mk hchg
 have HF:=Aside0.mk hF
 obtain ⟨t,ht⟩ : ∃ t,thereV l p.f1 p.f0 = t:=⟨_,rfl⟩
 have HT:=Aside0.mk ht
 rw [ht] at h1
 clear hr hs hl ht hchg hF hk0 hk1
 by_cases h0 : t = 0
 ·subst h0
  obtain ⟨x,hfx,hkx⟩:=there_zero.mp HT.out
  obtain ⟨hx,hlo⟩:=(has_find HS.out p.f1).2 x hfx
  obtain ⟨j,hj⟩ : ∃ j,lowB l p.f1 = j:=⟨_,rfl⟩
  have hE : changeE l p = if (changeV x p).isSome then 0 else 81:=by
   unfold changeE thingAt
   rw [HT.out,if_pos rfl,hfx,Option.getD_some]
  have hLL : ∀ y,changeV x p = some y → changeL l p = l.set j y:=by
   intro y hy
   rw [change_L hfx hy]
   unfold setL
   rw [hj]
  rw [hj] at hx hlo h1
  rw [hE]
  have FX:=Aside0.mk hfx
  have KX:=Aside0.mk hkx
  have LL:=Aside0.mk hLL
  have hj0 : (0 : Int) ≤ (j : Int):=by omega
  have hj1 : (j : Int) < (l.length : Int):=by omega
  clear hfx hkx hE hj hLL
  obtain ⟨r,hrr⟩ : ∃ r,(changeV x p).isSome = r:=⟨_,rfl⟩
  rw [hrr]
  have RR:=Aside0.mk hrr
  obtain ⟨err,herr⟩ : ∃ err : Int,(if r = true then (0 : Int) else 81) = err:=⟨_,rfl⟩
  rw [herr]
  have ER:=Aside0.mk herr
  clear hrr herr
  go_enter Tryz.func100,Tryz.ntmps100
  go_upto_region 4 with (go_at_call 95; refine h1.mono ?_; rintro e w1 ⟨⟨i,rfl,hi⟩,hb⟩)
  obtain rfl : i = j:=hi trivial
  have hB1:=Aside0.mk (HB.out.trans (hb.mono HB.out.size))
  have hX1:=Aside0.mk (blk_below HX.out hb)
  have hcl:=clone_at w1 l A c w1 (Below.refl _ _) HL.out (rows_rw (Kd.C_below HR.out hB1.out) (Below.refl _ _))
  clear b0 b1 b2 b3 b4 b5 b6 HB HX h1 hb hi
  go_upto_region 5 with (go_at_call 73; refine hcl.mono ?_; rintro e w2 ⟨v,rfl,hrow,hb2,hown⟩)
  obtain ⟨inner,⟨hlen,ho⟩,hrp⟩:=hrow
  rcases ho with ⟨rfl,hn0⟩ | ⟨g,cap,cur,rfl,hg,hh,hnc,hcm,hcs,ht⟩
  ·omega
  ·obtain ⟨X,d,hcs4,rx⟩:=hrp.2 i x (by rw [List.getElem?_eq_getElem hlo,← getD_get hlo,hx])
   have hent : Ent cur (i * 4) x X d:=by
    have key : ∀ k u,[Value.string x.f0,Value.int .i64 x.f1,Value.slice X x.f2.length d,Value.string x.f3][k]? = some u → cur[i * 4 + k]? = some u:=by
     intro k u hu
     rw [← hcs4,List.getElem?_take] at hu
     split at hu
     ·rw [List.getElem?_drop,← ht,List.getElem?_take] at hu
      split at hu
      ·simpa using hu
      ·cases hu
     ·cases hu
    exact ⟨key 0 _ rfl,key 1 _ rfl,key 2 _ rfl,key 3 _ rfl⟩
   have hBu:=hB1.out
   have hcall:=fun W (hb3 : Below w2.heap.size w2 W) => HC.out w1 x X d g (i * 4) cur W FX.out KX.out hB1.out (hb2.trans (hb3.mono hb2.size)) hg (blk_below hh hb3) hent rx
   obtain ⟨d0,d1,d2,d3,d4,d5,d6⟩:=cells7 hX1.out
   have dF:=(blk_cell (blk_below HF.out hB1.out) 0).trans (show _ = some (Value.func (.func 56) #[] #[]) from rfl)
   have DS:=Aside0.mk (And.intro dF (And.intro d0 (And.intro d1 (And.intro d2 (And.intro d3 (And.intro d4 (And.intro d5 d6)))))))
   clear d0 d1 d2 d3 d4 d5 d6 dF
   have hX2:=blk_below hX1.out hb2
   have hF2:=blk_below (blk_below HF.out hB1.out) hb2
   have cF:=(blk_cell hF2 0).trans (show _ = some (Value.func (.func 56) #[] #[]) from rfl)
   obtain ⟨b0,b1,b2,b3,b4,b5,b6⟩:=cells7 hX2
   have HB2:=Aside0.mk hb2
   have HG:=Aside0.mk hg
   have HCM:=Aside0.mk hcm
   have HCS:=Aside0.mk hcs
   have HTT:=Aside0.mk ht
   have HRP:=Aside0.mk hrp
   have HNC:=Aside0.mk hnc
   clear hcl hb2 hg hcm hcs ht hrp hnc hlen hown hX2 hF2 hh hent hcs4 rx hBu
   go_wp2
   go_region_held3 (fun U => U.cell? ⟨B,0,none⟩ = some (.func (.func 56) #[] #[]) ∧ U.cell? ⟨w.heap.size,0,none⟩ = some (.int .i64 p.f0) ∧ U.cell? ⟨w.heap.size,1,none⟩ = some (.string p.f1) ∧ U.cell? ⟨w.heap.size,2,none⟩ = some (.string p.f2) ∧ U.cell? ⟨w.heap.size,3,none⟩ = some (.string p.f3) ∧ U.cell? ⟨w.heap.size,4,none⟩ = some (.int .i64 p.f4) ∧ U.cell? ⟨w.heap.size,5,none⟩ = some v5 ∧ U.cell? ⟨w.heap.size,6,none⟩ = some v6) (first | exact ⟨cF,b0,b1,b2,b3,b4,b5,b6⟩ | exact ⟨pw_cell_below hb4 DS.out.1,pw_cell_below hb4 DS.out.2.1,pw_cell_below hb4 DS.out.2.2.1,pw_cell_below hb4 DS.out.2.2.2.1,pw_cell_below hb4 DS.out.2.2.2.2.1,pw_cell_below hb4 DS.out.2.2.2.2.2.1,pw_cell_below hb4 DS.out.2.2.2.2.2.2.1,pw_cell_below hb4 DS.out.2.2.2.2.2.2.2⟩) ((go_at_fn 56; refine (hcall _ (below_drew (Below.refl _ _))).mono ?_; rintro e w3 ⟨he,hb4,cur',hh4,hsb,hy4⟩; rw [RR.out] at he; subst he))
   all_goals
    have hB4:=Aside0.mk (hB1.out.trans (hb4.mono hB1.out.size))
    have HY:=Aside0.mk hy4
    have HH4:=Aside0.mk hh4
    have HSB:=Aside0.mk hsb
    have HB4:=Aside0.mk hb4
    clear hy4 hh4 hsb hb4 cF b0 b1 b2 b3 b4 b5 b6 hcall
    cases r with
    | false =>
     go_wp2
     go_ret2
     exact ⟨hB4.out,by have he : err = 81:=(by rw [← ER.out]; rfl); rw [he]; rfl⟩
    | true =>
     go_wp2
     go_ret2
     refine ⟨hB4.out,?_⟩
     rw [if_pos (show err = 0 by rw [← ER.out]; rfl)]
     obtain ⟨y,hy⟩:=Option.isSome_iff_exists.1 RR.out
     obtain ⟨Y,d',he,ry⟩:=HY.out y hy
     rw [LL.out y hy]
     have hlen : (l.set i y).length = l.length:=List.length_set
     have hrp2:=reps_set HRP.out HTT.out (by rw [HCS.out]; have:=HNC.out; omega) HB4.out HSB.out hlo he ry
     have hown2 : OwnRow (Rw w3) 41 4 w3 w1.heap.size (.slice (some ⟨g,0,none⟩) l.length cap) (l.set i y) :=
      ⟨_,⟨hrp2.1,Or.inr ⟨g,cap,cur',by rw [hlen],HG.out,HH4.out,by rw [hlen]; exact HNC.out,HCM.out,by rw [HSB.out.1,HCS.out],by rw [hlen]⟩⟩,hrp2⟩
     obtain ⟨A',c',he',hc',hrr⟩:=OwnRow.reads hown2
     injection he' with e1 e2 e3
     subst e1
     subst e3
     refine ⟨_,cap,by rw [hlen]; rfl,hc',?_⟩
     refine ReadsRow.imp_ hrr (Below.refl _ _) ?_
     rintro pp cl ⟨X',x',rfl,rx'⟩
     exact k41_mk w3 pp rx'.l rx'.g
 ·have hE : changeE l p = t:=by unfold changeE; rw [HT.out,if_neg h0]
  rw [hE]
  have hne : (t == 0) = false:=by simp [h0]
  have hne2 : (t != 0) = true:=by simp [h0]
  go_enter Tryz.func100,Tryz.ntmps100
  go_wp2_with (go_at_call 95; refine h1.mono ?_; rintro e w1 ⟨⟨i,rfl,hi⟩,hb⟩)
  go_ret2
  exact ⟨HB.out.trans (hb.mono HB.out.size),by rw [if_neg h0]; rfl⟩
set_option maxHeartbeats 8000000 in
set_option maxRecDepth 1000000 in
theorem changing57_at (l : List S41) (A : Option Addr) (c : Nat) (p : S25) (v5 v6 : Value) (B : Nat) (w : World) (h5 : v5.oneCell' = true) (h6 : v6.oneCell' = true)
  (hr : Kd.C k41 w A l.length l) (hl : l.length ≤ 1000000000) (hs : Srt l) (hk0 : 0 ≤ p.f0) (hk1 : p.f0 ≤ 10) (hF : w.heap[B]? = some (.cells #[.func (.func 57) #[] #[]] 76 (0,0)))
  (hchg : ∀ (u : World) (x : S41) (X : Option Addr) (d g o : Nat) (cur : Array Value) (W : World),findV l p.f1 = some x → x.f1 = kindV p.f0 → Below w.heap.size w u → Below u.heap.size u W → u.heap.size ≤ g → W.heap[g]? = some (.cells cur 41 (0,0)) → Ent cur o x X d → Re u x X d →
   Calls Tryz.prog 57 #[.pointer (some ⟨g,o,none⟩),.agg #[.int .i64 p.f0,.string p.f1,.string p.f2,.string p.f3,.int .i64 p.f4,v5,v6]] W (Chg u p x g o cur)) :
  Calls Tryz.prog 100 #[.slice A l.length c,.agg #[.int .i64 p.f0,.string p.f1,.string p.f2,.string p.f3,.int .i64 p.f4,v5,v6],.pointer (some ⟨B,0,none⟩)] w (Ans w (changeL l p) (changeE l p)):=by
 have eg : ∀ args w,(callFunc 57 args).run Tryz.prog w = .ok (.enter 57 args) w:=enters_of Tryz.func57 (by kernel_rfl) rfl
 have HB : Aside0 (Below w.heap.size w (w.alloc (.cells #[.int .i64 p.f0,.string p.f1,.string p.f2,.string p.f3,.int .i64 p.f4,v5,v6] 25))):=⟨below_alloc (Below.refl _ _) _⟩
 have HX : Aside0 ((w.alloc (.cells #[.int .i64 p.f0,.string p.f1,.string p.f2,.string p.f3,.int .i64 p.f4,v5,v6] 25)).heap[w.heap.size]? = some (.cells #[.int .i64 p.f0,.string p.f1,.string p.f2,.string p.f3,.int .i64 p.f4,v5,v6] 25 (0,0))):=⟨blk_new _ _⟩
 have h1:=there_at l A c p.f0 p.f1 (.string p.f2) (.string p.f3) (.int .i64 p.f4) v5 v6 _ rfl rfl rfl h5 h6 (Kd.C_below hr HB.out) hl hs hk0 hk1
 obtain ⟨b0,b1,b2,b3,b4,b5,b6⟩:=cells7 HX.out
 have HR:=Aside0.mk hr
 have HS:=Aside0.mk hs
 have HL:=Aside0.mk hl
 have HC:=Aside0.mk hchg
 have HF:=Aside0.mk hF
 obtain ⟨t,ht⟩ : ∃ t,thereV l p.f1 p.f0 = t:=⟨_,rfl⟩
 have HT:=Aside0.mk ht
 rw [ht] at h1
 clear hr hs hl ht hchg hF hk0 hk1
 by_cases h0 : t = 0
 ·subst h0
  obtain ⟨x,hfx,hkx⟩:=there_zero.mp HT.out
  obtain ⟨hx,hlo⟩:=(has_find HS.out p.f1).2 x hfx
  obtain ⟨j,hj⟩ : ∃ j,lowB l p.f1 = j:=⟨_,rfl⟩
  have hE : changeE l p = if (changeV x p).isSome then 0 else 81:=by
   unfold changeE thingAt
   rw [HT.out,if_pos rfl,hfx,Option.getD_some]
  have hLL : ∀ y,changeV x p = some y → changeL l p = l.set j y:=by
   intro y hy
   rw [change_L hfx hy]
   unfold setL
   rw [hj]
  rw [hj] at hx hlo h1
  rw [hE]
  have FX:=Aside0.mk hfx
  have KX:=Aside0.mk hkx
  have LL:=Aside0.mk hLL
  have hj0 : (0 : Int) ≤ (j : Int):=by omega
  have hj1 : (j : Int) < (l.length : Int):=by omega
  clear hfx hkx hE hj hLL
  obtain ⟨r,hrr⟩ : ∃ r,(changeV x p).isSome = r:=⟨_,rfl⟩
  rw [hrr]
  have RR:=Aside0.mk hrr
  obtain ⟨err,herr⟩ : ∃ err : Int,(if r = true then (0 : Int) else 81) = err:=⟨_,rfl⟩
  rw [herr]
  have ER:=Aside0.mk herr
  clear hrr herr
  go_enter Tryz.func100,Tryz.ntmps100
  go_upto_region 4 with (go_at_call 95; refine h1.mono ?_; rintro e w1 ⟨⟨i,rfl,hi⟩,hb⟩)
  obtain rfl : i = j:=hi trivial
  have hB1:=Aside0.mk (HB.out.trans (hb.mono HB.out.size))
  have hX1:=Aside0.mk (blk_below HX.out hb)
  have hcl:=clone_at w1 l A c w1 (Below.refl _ _) HL.out (rows_rw (Kd.C_below HR.out hB1.out) (Below.refl _ _))
  clear b0 b1 b2 b3 b4 b5 b6 HB HX h1 hb hi
  go_upto_region 5 with (go_at_call 73; refine hcl.mono ?_; rintro e w2 ⟨v,rfl,hrow,hb2,hown⟩)
  obtain ⟨inner,⟨hlen,ho⟩,hrp⟩:=hrow
  rcases ho with ⟨rfl,hn0⟩ | ⟨g,cap,cur,rfl,hg,hh,hnc,hcm,hcs,ht⟩
  ·omega
  ·obtain ⟨X,d,hcs4,rx⟩:=hrp.2 i x (by rw [List.getElem?_eq_getElem hlo,← getD_get hlo,hx])
   have hent : Ent cur (i * 4) x X d:=by
    have key : ∀ k u,[Value.string x.f0,Value.int .i64 x.f1,Value.slice X x.f2.length d,Value.string x.f3][k]? = some u → cur[i * 4 + k]? = some u:=by
     intro k u hu
     rw [← hcs4,List.getElem?_take] at hu
     split at hu
     ·rw [List.getElem?_drop,← ht,List.getElem?_take] at hu
      split at hu
      ·simpa using hu
      ·cases hu
     ·cases hu
    exact ⟨key 0 _ rfl,key 1 _ rfl,key 2 _ rfl,key 3 _ rfl⟩
   have hBu:=hB1.out
   have hcall:=fun W (hb3 : Below w2.heap.size w2 W) => HC.out w1 x X d g (i * 4) cur W FX.out KX.out hB1.out (hb2.trans (hb3.mono hb2.size)) hg (blk_below hh hb3) hent rx
   obtain ⟨d0,d1,d2,d3,d4,d5,d6⟩:=cells7 hX1.out
   have dF:=(blk_cell (blk_below HF.out hB1.out) 0).trans (show _ = some (Value.func (.func 57) #[] #[]) from rfl)
   have DS:=Aside0.mk (And.intro dF (And.intro d0 (And.intro d1 (And.intro d2 (And.intro d3 (And.intro d4 (And.intro d5 d6)))))))
   clear d0 d1 d2 d3 d4 d5 d6 dF
   have hX2:=blk_below hX1.out hb2
   have hF2:=blk_below (blk_below HF.out hB1.out) hb2
   have cF:=(blk_cell hF2 0).trans (show _ = some (Value.func (.func 57) #[] #[]) from rfl)
   obtain ⟨b0,b1,b2,b3,b4,b5,b6⟩:=cells7 hX2
   have HB2:=Aside0.mk hb2
   have HG:=Aside0.mk hg
   have HCM:=Aside0.mk hcm
   have HCS:=Aside0.mk hcs
   have HTT:=Aside0.mk ht
   have HRP:=Aside0.mk hrp
   have HNC:=Aside0.mk hnc
   clear hcl hb2 hg hcm hcs ht hrp hnc hlen hown hX2 hF2 hh hent hcs4 rx hBu
   go_wp2
   go_region_held3 (fun U => U.cell? ⟨B,0,none⟩ = some (.func (.func 57) #[] #[]) ∧ U.cell? ⟨w.heap.size,0,none⟩ = some (.int .i64 p.f0) ∧ U.cell? ⟨w.heap.size,1,none⟩ = some (.string p.f1) ∧ U.cell? ⟨w.heap.size,2,none⟩ = some (.string p.f2) ∧ U.cell? ⟨w.heap.size,3,none⟩ = some (.string p.f3) ∧ U.cell? ⟨w.heap.size,4,none⟩ = some (.int .i64 p.f4) ∧ U.cell? ⟨w.heap.size,5,none⟩ = some v5 ∧ U.cell? ⟨w.heap.size,6,none⟩ = some v6) (first | exact ⟨cF,b0,b1,b2,b3,b4,b5,b6⟩ | exact ⟨pw_cell_below hb4 DS.out.1,pw_cell_below hb4 DS.out.2.1,pw_cell_below hb4 DS.out.2.2.1,pw_cell_below hb4 DS.out.2.2.2.1,pw_cell_below hb4 DS.out.2.2.2.2.1,pw_cell_below hb4 DS.out.2.2.2.2.2.1,pw_cell_below hb4 DS.out.2.2.2.2.2.2.1,pw_cell_below hb4 DS.out.2.2.2.2.2.2.2⟩) ((go_at_fn 57; refine (hcall _ (below_drew (Below.refl _ _))).mono ?_; rintro e w3 ⟨he,hb4,cur',hh4,hsb,hy4⟩; rw [RR.out] at he; subst he))
   all_goals
    have hB4:=Aside0.mk (hB1.out.trans (hb4.mono hB1.out.size))
    have HY:=Aside0.mk hy4
    have HH4:=Aside0.mk hh4
    have HSB:=Aside0.mk hsb
    have HB4:=Aside0.mk hb4
    clear hy4 hh4 hsb hb4 cF b0 b1 b2 b3 b4 b5 b6 hcall
    cases r with
    | false =>
     go_wp2
     go_ret2
     exact ⟨hB4.out,by have he : err = 81:=(by rw [← ER.out]; rfl); rw [he]; rfl⟩
    | true =>
     go_wp2
     go_ret2
     refine ⟨hB4.out,?_⟩
     rw [if_pos (show err = 0 by rw [← ER.out]; rfl)]
     obtain ⟨y,hy⟩:=Option.isSome_iff_exists.1 RR.out
     obtain ⟨Y,d',he,ry⟩:=HY.out y hy
     rw [LL.out y hy]
     have hlen : (l.set i y).length = l.length:=List.length_set
     have hrp2:=reps_set HRP.out HTT.out (by rw [HCS.out]; have:=HNC.out; omega) HB4.out HSB.out hlo he ry
     have hown2 : OwnRow (Rw w3) 41 4 w3 w1.heap.size (.slice (some ⟨g,0,none⟩) l.length cap) (l.set i y) :=
      ⟨_,⟨hrp2.1,Or.inr ⟨g,cap,cur',by rw [hlen],HG.out,HH4.out,by rw [hlen]; exact HNC.out,HCM.out,by rw [HSB.out.1,HCS.out],by rw [hlen]⟩⟩,hrp2⟩
     obtain ⟨A',c',he',hc',hrr⟩:=OwnRow.reads hown2
     injection he' with e1 e2 e3
     subst e1
     subst e3
     refine ⟨_,cap,by rw [hlen]; rfl,hc',?_⟩
     refine ReadsRow.imp_ hrr (Below.refl _ _) ?_
     rintro pp cl ⟨X',x',rfl,rx'⟩
     exact k41_mk w3 pp rx'.l rx'.g
 ·have hE : changeE l p = t:=by unfold changeE; rw [HT.out,if_neg h0]
  rw [hE]
  have hne : (t == 0) = false:=by simp [h0]
  have hne2 : (t != 0) = true:=by simp [h0]
  go_enter Tryz.func100,Tryz.ntmps100
  go_wp2_with (go_at_call 95; refine h1.mono ?_; rintro e w1 ⟨⟨i,rfl,hi⟩,hb⟩)
  go_ret2
  exact ⟨HB.out.trans (hb.mono HB.out.size),by rw [if_neg h0]; rfl⟩
theorem row_own_lt {w W : World} {v : Value} {l : List S41} (h : Row w W v l) : ∀ g,v.ownBlock = some g → g < W.heap.size:=by
 intro g hg
 obtain ⟨inner,⟨_,ho⟩,_⟩:=h
 rcases ho with ⟨rfl,_⟩ | ⟨g',cap,cur,rfl,_,hh,_⟩
 ·cases hg
 ·have : g' = g:=Option.some.inj hg
  rw [← this]; exact blk_lt hh
theorem newE_rw (w : World) (p : S25) (kk : Int) (h : kindV p.f0 = kk) : Rw w (newE p) [.string p.f1,.int .i64 kk,.slice none 0 0,.string ⟨#[]⟩] :=
 ⟨none,0,by rw [← h]; rfl,Nat.le_refl _,⟨rfl,(show (0 : Nat) ≤ 9223372036854775807 by decide),fun h => absurd h (show ¬ (0 : Nat) < 0 by decide)⟩⟩
set_option maxHeartbeats 8000000 in
set_option maxRecDepth 1000000 in
theorem add_at (l : List S41) (A : Option Addr) (c : Nat) (p : S25) (v5 v6 : Value) (w : World) (h5 : v5.oneCell' = true) (h6 : v6.oneCell' = true)
  (hr : Kd.C k41 w A l.length l) (hl : l.length ≤ 1000000000) (hs : Srt l) (hk0 : 0 ≤ p.f0) (hk1 : p.f0 ≤ 10) (hp : p.f1.size ≤ 1000000000000) :
  Calls Tryz.prog 52 #[.slice A l.length c,.agg #[.int .i64 p.f0,.string p.f1,.string p.f2,.string p.f3,.int .i64 p.f4,v5,v6]] w (Ans w (insL l (newE p)) (addE l p)):=by
 have HB : Aside0 (Below w.heap.size w (w.alloc (.cells #[.int .i64 p.f0,.string p.f1,.string p.f2,.string p.f3,.int .i64 p.f4,v5,v6] 25))):=⟨below_alloc (Below.refl _ _) _⟩
 have HX : Aside0 ((w.alloc (.cells #[.int .i64 p.f0,.string p.f1,.string p.f2,.string p.f3,.int .i64 p.f4,v5,v6] 25)).heap[w.heap.size]? = some (.cells #[.int .i64 p.f0,.string p.f1,.string p.f2,.string p.f3,.int .i64 p.f4,v5,v6] 25 (0,0))):=⟨blk_new _ _⟩
 have h1:=room_at l A c p.f1 _ (Kd.C_below hr HB.out) hl hs hp
 obtain ⟨b0,b1,b2,b3,b4,b5,b6⟩:=cells7 HX.out
 have HR:=Aside0.mk hr
 have HS:=Aside0.mk hs
 have HL:=Aside0.mk hl
 obtain ⟨t,ht⟩ : ∃ t,roomV l p.f1 = t:=⟨_,rfl⟩
 have HT:=Aside0.mk ht
 have hE : addE l p = if t = 0 then (if l.length = 1024 then 2 else 0) else t:=by unfold addE; rw [ht]
 rw [ht] at h1
 rw [hE]
 have hki:=kind_row p.f0 hk0 hk1
 have HKI:=Aside0.mk hki
 obtain ⟨err,herr⟩ : ∃ err : Int,(if t = 0 then (if l.length = 1024 then 2 else 0) else t) = err:=⟨_,rfl⟩
 rw [herr]
 have ER:=Aside0.mk herr
 clear hr hs hl ht hE herr hk0 hk1 hki
 by_cases h0 : t = 0
 ·subst h0
  by_cases hm : l.length = 1024
  ·have hmb : ((l.length : Int) == 1024) = true:=by rw [beq_iff_eq]; omega
   have HM:=Aside0.mk hm
   clear hm
   go_enter Tryz.func52,Tryz.ntmps52
   go_wp2_with (go_at_call 91; refine h1.mono ?_; rintro e w1 ⟨rfl,hb⟩)
   go_ret2
   exact ⟨HB.out.trans (hb.mono HB.out.size),by have he : err = 2:=(by rw [← ER.out]; simp [HM.out]); rw [he]; rfl⟩
  ·have hmb : ((l.length : Int) == 1024) = false:=by rw [beq_eq_false_iff_ne]; omega
   have HM:=Aside0.mk hm
   clear hm
   go_enter Tryz.func52,Tryz.ntmps52
   go_upto_region 6 with (go_at_call 91; refine h1.mono ?_; rintro e w1 ⟨rfl,hb⟩)
   have hB1:=Aside0.mk (HB.out.trans (hb.mono HB.out.size))
   have hX1:=Aside0.mk (blk_below HX.out hb)
   have h2:=where_at l A c p.f1 w1 (Kd.C_below HR.out hB1.out) HL.out HS.out
   obtain ⟨c0,c1,c2,c3,c4,c5,c6⟩:=cells7 hX1.out
   clear b0 b1 b2 b3 b4 b5 b6 HB HX h1 hb
   go_upto_region 7 with (go_at_call 92; refine h2.mono ?_; rintro e w2 ⟨rfl,hb⟩)
   have hB2:=Aside0.mk (hB1.out.trans (hb.mono hB1.out.size))
   have hX2:=Aside0.mk (blk_below hX1.out hb)
   obtain ⟨d0,d1,d2,d3,d4,d5,d6⟩:=cells7 hX2.out
   clear c0 c1 c2 c3 c4 c5 c6 hX1 h2 hb
   have hcl:=clone_at w2 l A c w2.drew (below_drew (Below.refl _ _)) HL.out (rows_rw (Kd.C_below HR.out hB2.out) (below_drew (Below.refl _ _)))
   have hki:=HKI.out
   have hC:=kinds_calls
   obtain ⟨j,hj⟩ : ∃ j,lowB l p.f1 = j:=⟨_,rfl⟩
   have hjl : j ≤ l.length:=by rw [← hj]; exact lowB_le _ _
   have HJ:=Aside0.mk hj
   rw [hj]
   obtain ⟨kk,hkk⟩ : ∃ kk,kindV p.f0 = kk:=⟨_,rfl⟩
   rw [hkk] at hki
   have KK:=Aside0.mk hkk
   clear hj hkk
   go_region_held3 (fun U => U.cell? ⟨w.heap.size,0,none⟩ = some (.int .i64 p.f0) ∧ U.cell? ⟨w.heap.size,1,none⟩ = some (.string p.f1)) (first | exact ⟨d0,d1⟩ | exact ⟨pw_cell_below hb3 d0,pw_cell_below hb3 d1⟩ | exact ⟨pw_cell_below hb4 (pw_cell_below hb3 d0),pw_cell_below hb4 (pw_cell_below hb3 d1)⟩ | exact ⟨Lib.cell?_alloc_some _ (pw_cell_below hb4 (pw_cell_below hb3 d0)),Lib.cell?_alloc_some _ (pw_cell_below hb4 (pw_cell_below hb3 d1))⟩ | exact ⟨pw_cell_below hb5 d0,pw_cell_below hb5 d1⟩) (first
    | ((go_at_call 73; refine hcl.mono ?_; rintro e w3 ⟨v,rfl,hrow,hb3,hown⟩))
    | ((go_at_call 94; refine (hC _).mono ?_; rintro e w4 ⟨rfl,hb4⟩))
    | ((go_at_call 93; refine (insert_at w2 l v j (newE p) _ w4.heap.size _ ((hrow.below hb4).below (below_alloc (Below.refl _ _) _)) ((hb3.trans (hb4.mono hb3.size)).trans (below_alloc (Below.refl w4.heap.size w4) _ |>.mono (Nat.le_trans hb3.size hb4.size))) hjl HL.out (blk_new _ _) (newE_rw w2 p kk KK.out) (fun h => by have h1:=row_own_lt hrow _ h; have h2:=hb4.size; omega)).mono ?_; rintro e w5 ⟨A5,c5,rfl,hc5,hrr,hb5⟩)))
   all_goals
    have hB5:=Aside0.mk (hB2.out.trans (hb5.mono hB2.out.size))
    have HR5:=Aside0.mk hrr
    have HB5:=Aside0.mk hb5
    clear hrr hrow hb3 hb4 hb5 hown hcl hki hC d0 d1 d2 d3 d4 d5 d6
    go_wp2
    go_ret2
    refine ⟨hB5.out,?_⟩
    rw [if_pos (show err = 0 by rw [← ER.out]; simp [HM.out])]
    have hins : insL l (newE p) = l.take j ++ newE p :: l.drop j:=by
     unfold insL
     rw [show lowB l (newE p).f0 = j from HJ.out]
    refine ⟨A5,c5,by rw [ins_len]; rfl,by rw [ins_len]; exact hc5,?_⟩
    rw [ins_len,hins]
    refine ReadsRow.imp_ HR5.out (Below.refl _ _) ?_
    rintro pp cl ⟨X',x',rfl,rx'⟩
    exact k41_mk _ pp rx'.l (Kd.C_below rx'.g HB5.out)
 ·have hne : (t == 0) = false:=by simp [h0]
  have hne2 : (t != 0) = true:=by simp [h0]
  have h00:=Aside0.mk h0
  go_enter Tryz.func52,Tryz.ntmps52
  go_wp2_with (go_at_call 91; refine h1.mono ?_; rintro e w1 ⟨rfl,hb⟩)
  go_ret2
  exact ⟨HB.out.trans (hb.mono HB.out.size),by have he : err = t:=(by rw [← ER.out]; rw [if_neg h00.out]); rw [he,if_neg h00.out]; rfl⟩
open Go.RowKit Go.Proofs.YthhohbidjhcjeaaGreatDoor.Q Go.Proofs.YthhohbidjhcjeaaGreatDoor.Pl
theorem prim_path {p : S25} (h : primB p = true) : rightB p.f1 = true:=by
 unfold primB at h
 simp only [Bool.and_eq_true] at h
 exact h.1.1
theorem prim_move {p : S25} (h : primB p = true) (h10 : p.f0 = 10) : rightB p.f2 = true ∧ apartB p.f1 p.f2 = true:=by
 unfold primB kindB at h
 rw [if_neg (by omega),if_neg (by omega)] at h
 by_cases h3 : p.f3.toList = ([] : List UInt8)
 ·rw [if_pos h3,if_pos h10] at h
  simp only [Bool.and_eq_true] at h
  exact h.2
 ·rw [if_neg h3,Bool.and_false] at h
  cases h
theorem prim_lines {p : S25} (h : primB p = true) (h7 : p.f0 = 7) : p.f2.toList = [] ∧ p.f3.toList = [] ∧ 0 ≤ p.f4 ∧ p.f4 ≤ 1073741824 ∧ linesB p.f5 = true ∧ linesB p.f6 = true ∧ 0 < p.f5.length + p.f6.length:=by
 unfold primB kindB at h
 rw [if_neg (by omega),if_neg (by omega)] at h
 by_cases h3 : p.f3.toList = ([] : List UInt8)
 ·rw [if_pos h3,if_neg (by omega),if_pos h7] at h
  simp only [Bool.and_eq_true,decide_eq_true_eq] at h
  obtain ⟨_,⟨⟨⟨⟨⟨a,b⟩,c⟩,d⟩,e⟩,f⟩⟩:=h
  exact ⟨a,h3,b,c,d,e,f⟩
 ·rw [if_neg h3,Bool.and_false] at h
  cases h
theorem prim_token {p : S25} (h : primB p = true) (h8 : p.f0 = 8) : tokenB p.f3 = true ∧ tokenB p.f2 = true ∧ p.f3 ≠ p.f2:=by
 unfold primB kindB at h
 rw [if_pos h8] at h
 simp only [Bool.and_eq_true] at h
 obtain ⟨_,⟨a,b⟩,c⟩:=h
 refine ⟨a,b,fun k => ?_⟩
 rw [k] at c
 simp at c
theorem kind_low {k : Int} (h1 : 1 ≤ k) (h2 : k ≤ 9) : 1 ≤ kindV k ∧ kindV k ≤ 3:=by
 have : k = 1 ∨ k = 2 ∨ k = 3 ∨ k = 4 ∨ k = 5 ∨ k = 6 ∨ k = 7 ∨ k = 8 ∨ k = 9:=by omega
 rcases this with rfl | rfl | rfl | rfl | rfl | rfl | rfl | rfl | rfl <;> decide
theorem hasNL_iff (s : ByteArray) : hasNL s = true ↔ (10 : UInt8) ∈ s.data.toList:=by
 unfold hasNL
 rw [decide_eq_true_eq]
 constructor
 ·intro h
  obtain ⟨o,ho⟩ : ∃ o : Nat,Lib.indexByte s.data.toList 10 = o:=⟨(Lib.indexByte s.data.toList 10).toNat,by omega⟩
  exact List.mem_of_getElem? (Lib.indexByte_some ho).1
 ·intro h
  have hge:=Lib.indexByte_ge s.data.toList 10
  rcases Int.lt_or_le (Lib.indexByte s.data.toList 10) 0 with k | k
  ·have k' : Lib.indexByte s.data.toList 10 = -1:=by omega
   obtain ⟨j,hj,e⟩:=List.getElem_of_mem h
   exact absurd (by rw [List.getElem?_eq_getElem hj,e]) (Lib.indexByte_none k' j)
  ·exact k
theorem lines_iff (l : List ByteArray) : linesB l = true ↔ ∀ s ∈ l,(10 : UInt8) ∉ s.data.toList:=by
 unfold linesB
 rw [Bool.not_eq_true',List.any_eq_false]
 constructor
 ·intro h s hs k
  exact h s hs ((hasNL_iff s).mpr k)
 ·intro h s hs k
  exact h s hs ((hasNL_iff s).mp k)
theorem hunk_some {l old new k : List ByteArray} {a : Int} (h : hunkV l a old new = some k) : 0 ≤ a ∧ ∃ x y,l = x ++ old ++ y ∧ x.length = a.toNat ∧ k = x ++ new ++ y:=by
 unfold hunkV at h
 split at h
 ·rename_i hc
  obtain ⟨h0,h1,h2⟩:=hc
  refine ⟨h0,l.take a.toNat,l.drop (a.toNat + old.length),?_,?_,(Option.some.inj h).symm⟩
  ·conv => lhs; rw [← List.take_append_drop a.toNat l,← List.take_append_drop old.length (l.drop a.toNat),h2,List.drop_drop]
   rw [List.append_assoc]
  ·rw [List.length_take]; omega
 ·cases h
theorem hunk_of (x old y new : List ByteArray) : hunkV (x ++ old ++ y) (x.length : Int) old new = some (x ++ new ++ y):=by
 unfold hunkV
 rw [if_pos]
 ·have e1 : (x ++ old ++ y).take x.length = x:=by rw [List.append_assoc,List.take_left' rfl]
  have e2 : (x ++ old ++ y).drop (x.length + old.length) = y:=by rw [← List.length_append,List.drop_left' rfl]
  rw [Int.toNat_natCast,e1,e2]
 ·rw [Int.toNat_natCast]
  refine ⟨by omega,by simp only [List.length_append]; omega,?_⟩
  rw [List.append_assoc,List.drop_left' rfl,List.take_left' rfl]
theorem runs_ne : ∀ (s : List UInt8) (r : List UInt8),r ∈ runs s → r ≠ []
 | [],r,h => by cases h
 | c :: s,r,h => by
  unfold runs at h
  have ih:=runs_ne s
  split at h
  ·rename_i d r' rest hr
   rw [hr] at ih
   split at h
   ·rcases List.mem_cons.mp h with rfl | h
    ·simp
    ·exact ih r (List.mem_cons_of_mem _ h)
   ·rcases List.mem_cons.mp h with rfl | h
    ·simp
    ·exact ih r h
  ·rw [List.mem_singleton] at h
   rw [h]; simp
theorem runs_flat : ∀ (s : List UInt8),(runs s).flatten = s
 | [] => rfl
 | c :: s => by
  have ih:=runs_flat s
  unfold runs
  split
  ·rename_i d r' rest hr
   rw [hr] at ih
   split
   ·rw [← ih]; rfl
   ·rw [← ih]; rfl
  ·rename_i hr
   cases hs : runs s with
   | nil => rw [hs] at ih; rw [← ih]; rfl
   | cons r rest =>
    cases r with
    | nil => exact absurd rfl (runs_ne s [] (by rw [hs]; simp))
    | cons d r' => exact absurd hs (hr d r' rest)
def Uni (b : Bool) (r : List UInt8) : Prop:=r ≠ [] ∧ ∀ c ∈ r,inU c = b
def Alt : List (List UInt8) → Prop
 | [] => True
 | r :: rest => ∃ b,Uni b r ∧ (∀ r' ∈ rest.head?,Uni (!b) r') ∧ Alt rest
theorem alt_runs : ∀ (s : List UInt8),Alt (runs s)
 | [] => trivial
 | c :: s => by
  have ih:=alt_runs s
  unfold runs
  split
  ·rename_i d r' rest hr
   rw [hr] at ih
   obtain ⟨b,hu,hn,ha⟩:=ih
   have hd : inU d = b:=hu.2 d (by simp)
   split
   ·rename_i hc
    refine ⟨b,⟨by simp,fun x hx => ?_⟩,hn,ha⟩
    rcases List.mem_cons.mp hx with rfl | hx
    ·rw [hc,hd]
    ·exact hu.2 x hx
   ·rename_i hc
    refine ⟨inU c,⟨by simp,fun x hx => by rw [List.mem_singleton] at hx; rw [hx]⟩,fun r hr' => ?_,b,hu,hn,ha⟩
    rw [List.head?_cons,Option.mem_some_iff] at hr'
    rw [← hr']
    have : b = !(inU c):=by
     rw [hd] at hc
     cases b <;> cases hcc : inU c <;> simp_all
    rw [← this]; exact hu
  ·exact ⟨inU c,⟨by simp,fun x hx => by rw [List.mem_singleton] at hx; rw [hx]⟩,(fun r hr' => by cases hr'),trivial⟩
theorem runs_eq (c : UInt8) (s : List UInt8) : runs (c :: s) = match runs s with
  | (d :: r) :: rest => if inU c = inU d then (c :: d :: r) :: rest else [c] :: (d :: r) :: rest
  | _ => [[c]]:=rfl
theorem runs_cons {b : Bool} : ∀ {r : List UInt8} {s : List UInt8},Uni b r → (∀ r' ∈ (runs s).head?,Uni (!b) r') → runs (r ++ s) = r :: runs s
 | [],s,h,_ => absurd rfl h.1
 | [c],s,h,hn => by
  show runs (c :: s) = _
  have hc : inU c = b:=h.2 c (by simp)
  cases hs : runs s with
  | nil => unfold runs; rw [hs]
  | cons r' rest =>
   cases r' with
   | nil => exact absurd rfl (runs_ne s [] (by rw [hs]; simp))
   | cons d t =>
    have hd : inU d = !b:=(hn (d :: t) (by rw [hs]; rfl)).2 d (by simp)
    unfold runs
    rw [hs]
    simp only
    rw [if_neg (by rw [hc,hd]; cases b <;> simp)]
 | c :: d :: r,s,h,hn => by
  have hc : inU c = b:=h.2 c (by simp)
  have hd : inU d = b:=h.2 d (by simp)
  have ih:=runs_cons (b:=b) (r:=d :: r) (s:=s) ⟨by simp,fun x hx => h.2 x (List.mem_cons_of_mem _ hx)⟩ hn
  show runs (c :: ((d :: r) ++ s)) = _
  rw [runs_eq,ih]
  simp only
  rw [if_pos (by rw [hc,hd])]
theorem runs_of_alt : ∀ {L : List (List UInt8)},Alt L → runs L.flatten = L
 | [],_ => rfl
 | r :: rest,h => by
  obtain ⟨b,hu,hn,ha⟩:=h
  have ih:=runs_of_alt ha
  rw [List.flatten_cons,runs_cons hu (by rw [ih]; exact hn),ih]
theorem token_uni {s : ByteArray} (h : tokenB s = true) : Uni true s.data.toList:=by
 unfold tokenB at h
 rw [Bool.and_eq_true] at h
 refine ⟨fun k => ?_,fun c hc => List.all_eq_true.mp h.1 c hc⟩
 rw [toList_data,k] at h
 simp at h
theorem alt_map {f : List UInt8 → List UInt8} (hf : ∀ b r,Uni b r → Uni b (f r)) : ∀ {L : List (List UInt8)},Alt L → Alt (L.map f)
 | [],_ => trivial
 | r :: rest,h => by
  obtain ⟨b,hu,hn,ha⟩:=h
  refine ⟨b,hf b r hu,?_,alt_map hf ha⟩
  intro r' hr'
  cases rest with
  | nil => cases hr'
  | cons x rest =>
   rw [List.map_cons,List.head?_cons,Option.mem_some_iff] at hr'
   rw [← hr']
   exact hf _ _ (hn x rfl)
def repR (fr to_ : ByteArray) (r : List UInt8) : List UInt8:=if r = fr.data.toList then to_.data.toList else r
theorem rep_uni {fr to_ : ByteArray} (hf : tokenB fr = true) (ht : tokenB to_ = true) : ∀ b r,Uni b r → Uni b (repR fr to_ r):=by
 intro b r h
 unfold repR
 split
 ·rename_i e
  have h1:=token_uni hf
  have h2:=token_uni ht
  have : b = true:=by
   cases hr : r with
   | nil => exact absurd hr h.1
   | cons c r' =>
    have a1:=h.2 c (by rw [hr]; simp)
    have a2:=h1.2 c (by rw [← e,hr]; simp)
    rw [← a1,a2]
  rw [this]; exact h2
 ·exact h
theorem repl_data (s fr to_ : ByteArray) : (replV s fr to_).data.toList = ((runs s.data.toList).map (repR fr to_)).flatten:=by
 unfold replV
 simp only [List.flatMap]
 rfl
theorem repl_runs {fr to_ : ByteArray} (hf : tokenB fr = true) (ht : tokenB to_ = true) (s : ByteArray) : runs (replV s fr to_).data.toList = (runs s.data.toList).map (repR fr to_):=by
 rw [repl_data]
 exact runs_of_alt (alt_map (rep_uni hf ht) (alt_runs _))
theorem pieces_has (s t : ByteArray) : (runs s.data.toList).contains t.data.toList = true ↔ t.data.toList ∈ runs s.data.toList:=List.contains_iff_mem
theorem tok_some {l k : List ByteArray} {fr to_ : ByteArray} (h : tokV l fr to_ = some k) : (∀ s ∈ l,to_.data.toList ∉ runs s.data.toList) ∧ k = l.map (fun s => replV s fr to_):=by
 unfold tokV at h
 split at h
 ·cases h
 ·rename_i hn
  refine ⟨fun s hs hm => hn ?_,(Option.some.inj h).symm⟩
  exact List.any_eq_true.mpr ⟨s,hs,(pieces_has s to_).mpr hm⟩
theorem tok_of {l : List ByteArray} {fr to_ : ByteArray} (h : ∀ s ∈ l,to_.data.toList ∉ runs s.data.toList) : tokV l fr to_ = some (l.map (fun s => replV s fr to_)):=by
 unfold tokV
 rw [if_neg]
 intro k
 obtain ⟨s,hs,hc⟩:=List.any_eq_true.mp k
 exact h s hs ((pieces_has s to_).mp hc)
theorem tok_back {l k : List ByteArray} {fr to_ : ByteArray} (hf : tokenB fr = true) (ht : tokenB to_ = true) (hne : fr ≠ to_) (h : tokV l fr to_ = some k) : tokV k to_ fr = some l:=by
 obtain ⟨h1,rfl⟩:=tok_some h
 have hne' : fr.data.toList ≠ to_.data.toList:=fun e => hne (data_inj e)
 rw [tok_of]
 ·congr 1
  rw [List.map_map]
  conv => rhs; rw [← List.map_id l]
  refine List.map_congr_left fun s hs => data_inj ?_
  show (replV (replV s fr to_) to_ fr).data.toList = s.data.toList
  rw [repl_data,repl_runs hf ht,List.map_map]
  conv => rhs; rw [← runs_flat s.data.toList]
  congr 1
  conv => rhs; rw [← List.map_id (runs s.data.toList)]
  refine List.map_congr_left fun r hr => ?_
  show repR to_ fr (repR fr to_ r) = r
  unfold repR
  by_cases e : r = fr.data.toList
  ·rw [if_pos e,if_pos rfl,e]
  ·rw [if_neg e,if_neg (fun k => h1 s hs (by rw [← k]; exact hr))]
 ·intro s' hs' hm
  obtain ⟨s,hs,rfl⟩:=List.mem_map.mp hs'
  rw [repl_runs hf ht] at hm
  obtain ⟨r,hr,e⟩:=List.mem_map.mp hm
  unfold repR at e
  split at e
  ·exact hne' e.symm
  ·rename_i k; exact k e
theorem token_nl {s : ByteArray} (h : tokenB s = true) : (10 : UInt8) ∉ s.data.toList:=fun hm => by
 have:=(token_uni h).2 10 hm
 revert this
 decide
theorem tok_lines {l k : List ByteArray} {fr to_ : ByteArray} (ht : tokenB to_ = true) (hl : linesB l = true) (h : tokV l fr to_ = some k) : linesB k = true:=by
 obtain ⟨h1,rfl⟩:=tok_some h
 rw [lines_iff] at hl ⊢
 intro s' hs' hm
 obtain ⟨s,hs,rfl⟩:=List.mem_map.mp hs'
 rw [repl_data] at hm
 obtain ⟨r',hr',hc⟩:=List.mem_flatten.mp hm
 obtain ⟨r,hr,rfl⟩:=List.mem_map.mp hr'
 unfold repR at hc
 split at hc
 ·exact token_nl ht hc
 ·refine hl s hs ?_
  rw [← runs_flat s.data.toList]
  exact List.mem_flatten.mpr ⟨r,hr,hc⟩
theorem hunk_lines {l old new k : List ByteArray} {a : Int} (hl : linesB l = true) (hn : linesB new = true) (h : hunkV l a old new = some k) : linesB k = true:=by
 obtain ⟨_,x,y,rfl,_,rfl⟩:=hunk_some h
 rw [lines_iff] at hl hn ⊢
 intro s hs
 rcases List.mem_append.mp hs with hs | hs
 ·rcases List.mem_append.mp hs with hs | hs
  ·exact hl s (by simp [hs])
  ·exact hn s hs
 ·exact hl s (by simp [hs])
theorem hunk_back {l old new k : List ByteArray} {a : Int} (h : hunkV l a old new = some k) : hunkV k a new old = some l:=by
 obtain ⟨h0,x,y,rfl,hx,rfl⟩:=hunk_some h
 have:=hunk_of x new y old
 rwa [show (x.length : Int) = a by omega] at this
theorem thing_iff (x : S41) : thingB x = true ↔ rightB x.f0 = true ∧ 1 ≤ x.f1 ∧ x.f1 ≤ 3 ∧ linesB x.f2 = true ∧ (x.f1 = 2 ∨ x.f2 = []) ∧ (x.f1 = 3 ∨ x.f3 = e0):=by
 unfold thingB
 simp only [Bool.and_eq_true,Bool.or_eq_true,decide_eq_true_eq]
 constructor
 ·rintro ⟨⟨⟨⟨⟨a,b⟩,c⟩,d⟩,e⟩,f⟩
  exact ⟨a,b,c,d,e.imp id List.length_eq_zero_iff.mp,f.imp id toList_nil⟩
 ·rintro ⟨a,b,c,d,e,f⟩
  exact ⟨⟨⟨⟨⟨a,b⟩,c⟩,d⟩,e.imp id (fun h => by rw [h]; rfl)⟩,f.imp id (fun h => by rw [h,toList_data]; rfl)⟩
theorem change_thing {x y : S41} {p : S25} (hp : primB p = true) (hx : thingB x = true) (h7 : 7 ≤ p.f0) (h9 : p.f0 ≤ 9) (hk : x.f1 = kindV p.f0) (h : changeV x p = some y) : thingB y = true:=by
 rw [thing_iff] at hx ⊢
 obtain ⟨a,b,c,d,e,f⟩:=hx
 have : p.f0 = 7 ∨ p.f0 = 8 ∨ p.f0 = 9:=by omega
 unfold changeV at h
 rcases this with k | k | k
 ·rw [if_pos k] at h
  obtain ⟨l,hl,rfl⟩:=Option.map_eq_some_iff.mp h
  have hk2 : x.f1 = 2:=by rw [hk,k]; rfl
  exact ⟨a,b,c,hunk_lines d (prim_lines hp k).2.2.2.2.2.1 hl,.inl hk2,f⟩
 ·rw [if_neg (by omega),if_pos k] at h
  obtain ⟨l,hl,rfl⟩:=Option.map_eq_some_iff.mp h
  have hk2 : x.f1 = 2:=by rw [hk,k]; rfl
  exact ⟨a,b,c,tok_lines (prim_token hp k).2.1 d hl,.inl hk2,f⟩
 ·rw [if_neg (by omega),if_neg (by omega)] at h
  split at h
  ·rw [← Option.some.inj h]
   have hk3 : x.f1 = 3:=by rw [hk,k]; rfl
   exact ⟨a,b,c,d,e,.inl hk3⟩
  ·cases h
theorem add_tree {l : List S41} {p : S25} (ht : Tr l) (hp : primB p = true) (h9 : p.f0 ≤ 9) (h1 : 1 ≤ p.f0) (h : addE l p = 0) : Tr (insL l (newE p)):=by
 obtain ⟨hn,hu,hl⟩:=add_zero.mp h
 have hf:=ins_find ht.s (x:=newE p) hn
 have e1 : (newE p).f0 = p.f1:=rfl
 refine Tr.of ?_ (ins_srt ht.s hn) ?_ ?_
 ·have:=ht.n
  rw [ins_len]; omega
 ·intro q x hx
  rw [hf] at hx
  split at hx
  ·rw [← Option.some.inj hx,thing_iff]
   have:=kind_low h1 h9
   exact ⟨prim_path hp,this.1,this.2,rfl,.inr rfl,.inr rfl⟩
  ·exact ht.thing hx
 ·intro q x u hx hq
  rw [hf] at hx
  have hlt:=parent_lt hq
  split at hx
  ·rename_i e
   rw [e1] at e
   subst e
   obtain ⟨y,hy,k⟩:=hu u hq
   refine ⟨y,?_,k⟩
   rw [hf,if_neg (by rw [e1]; exact ltP_ne hlt),hy]
  ·obtain ⟨y,hy,k⟩:=ht.parent hx hq
   refine ⟨y,?_,k⟩
   rw [hf,if_neg,hy]
   intro e
   rw [e1] at e
   rw [e,hn] at hy; cases hy
theorem remove_tree {l : List S41} {p : S25} (ht : Tr l) (h : removeE l p.f1 p.f0 = 0) : Tr (delL l p.f1):=by
 obtain ⟨hn,hi⟩:=(remove_zero ht.s).mp h
 have hf:=del_find ht.s hn
 refine Tr.of ?_ (del_srt ht.s _) ?_ ?_
 ·have:=del_len ht.s hn
  have:=ht.n
  omega
 ·intro q x hx
  rw [hf] at hx
  split at hx
  ·cases hx
  ·exact ht.thing hx
 ·intro q x u hx hq
  rw [hf] at hx
  split at hx
  ·cases hx
  ·rename_i hne
   obtain ⟨y,hy,k⟩:=ht.parent hx hq
   refine ⟨y,?_,k⟩
   rw [hf,if_neg,hy]
   intro e
   have hw:=parent_within hq
   rw [e] at hw
   obtain ⟨hm,e2⟩:=find_mem hx
   rw [← e2] at hw hne
   exact hne (hi x hm hw)
theorem change_tree {l : List S41} {p : S25} (ht : Tr l) (hp : primB p = true) (h7 : 7 ≤ p.f0) (h9 : p.f0 ≤ 9) (h : changeE l p = 0) : Tr (changeL l p):=by
 obtain ⟨x,y,hx,hk,hc⟩:=change_zero.mp h
 rw [change_L hx hc]
 obtain ⟨c0,c1⟩:=change_f0 hc
 have e : y.f0 = p.f1:=c0.trans (find_mem hx).2
 have hf:=set_find ht.s hx e
 refine Tr.of (by rw [set_len]; exact ht.n) (set_srt ht.s hx e) ?_ ?_
 ·intro q z hz
  rw [hf] at hz
  split at hz
  ·rw [← Option.some.inj hz]
   exact change_thing hp (ht.thing hx) h7 h9 hk hc
  ·exact ht.thing hz
 ·intro q z u hz hq
  have hpar : ∃ w,findV l q = some w:=by
   rw [hf] at hz
   split at hz
   ·rename_i e'; exact ⟨x,by rw [e',hx]⟩
   ·exact ⟨z,hz⟩
  obtain ⟨w,hw⟩:=hpar
  obtain ⟨v,hv,k⟩:=ht.parent hw hq
  by_cases e' : u = p.f1
  ·refine ⟨y,by rw [hf,if_pos e'],?_⟩
   rw [e',hx] at hv
   rw [c1,Option.some.inj hv,k]
  ·exact ⟨v,by rw [hf,if_neg e',hv],k⟩
theorem parent_mv {q to_ fr u : ByteArray} (hw : withinB q to_ = true) (hne : q ≠ to_) (hq : parentV q = some u) : withinB u to_ = true ∧ parentV (mv q to_ fr) = some (mv u to_ fr):=by
 obtain ⟨v,hv,hvw⟩:=within_parent hw hne
 rw [hq] at hv
 rw [← Option.some.inj hv] at hvw
 refine ⟨hvw,?_⟩
 rcases parent_cases q with ⟨e,_⟩ | ⟨u',t,e,hd,hnt⟩
 ·rw [e] at hq; cases hq
 ·rw [e] at hq
  have:=Option.some.inj hq
  subst this
  obtain ⟨r,hr,_⟩:=(within_iff _ _).mp hvw
  refine parent_eq (t:=t) ?_ hnt
  rw [mv_data fr hr]
  rw [hr,List.append_assoc] at hd
  rw [mv_data fr hd,List.append_assoc]
theorem move_tree {l : List S41} {p : S25} (ht : Tr l) (hp : primB p = true) (h10 : p.f0 = 10) (h : moveE l p = 0) : Tr (moveL l p):=by
 obtain ⟨⟨x0,hx0⟩,hn,hu,hr⟩:=move_zero.mp h
 obtain ⟨_,hap⟩:=prim_move hp h10
 obtain ⟨a1,a2⟩:=apart_within hap
 have hnw:=ht.none_within hn
 have hf:=move_find ht.s (fr:=p.f1) hnw
 unfold moveL
 refine Tr.of ?_ (sort_srt (move_dis ht.s hnw)) ?_ ?_
 ·rw [sort_len,List.length_map]; exact ht.n
 ·intro q x hx
  obtain ⟨hm,_⟩:=find_mem hx
  rw [sort_mem] at hm
  obtain ⟨z,hz,rfl⟩:=List.mem_map.mp hm
  have h1:=ht.t z hz
  rw [thing_iff] at h1 ⊢
  exact ⟨hr z hz,h1.2⟩
 ·intro q x u hx hq
  rw [hf] at hx
  have hlt:=parent_lt hq
  cases hqt : withinB q p.f2 with
  | true =>
   rw [hqt,if_pos rfl] at hx
   obtain ⟨z,hz,hz2⟩:=Option.bind_eq_some_iff.mp hx
   by_cases e : q = p.f2
   ·subst e
    obtain ⟨y,hy,k⟩:=hu u hq
    refine ⟨y,?_,k⟩
    have n1 : withinB u p.f2 = false:=by
     cases hh : withinB u p.f2 with
     | false => rfl
     | true =>
      have:=within_antisymm hh (parent_within hq)
      exact absurd this (ltP_ne hlt)
    have n2 : withinB u p.f1 = false:=by
     cases hh : withinB u p.f1 with
     | false => rfl
     | true => have:=within_trans (parent_within hq) hh; rw [a2] at this; cases this
    rw [hf,n1,n2,if_neg (by simp),if_neg (by simp),hy]
   ·obtain ⟨hw,hpm⟩:=parent_mv (fr:=p.f1) hqt e hq
    obtain ⟨y,hy,k⟩:=ht.parent hz hpm
    refine ⟨{ y with f0:=u },?_,k⟩
    rw [hf,hw,if_pos rfl,hy,Option.bind_some,if_pos (mv_within p.f1 hw)]
  | false =>
   rw [hqt,if_neg (by simp)] at hx
   split at hx
   ·cases hx
   ·rename_i hqf
    obtain ⟨y,hy,k⟩:=ht.parent hx hq
    refine ⟨y,?_,k⟩
    have n1 : withinB u p.f2 = false:=by
     cases hh : withinB u p.f2 with
     | false => rfl
     | true => have:=within_trans (parent_within hq) hh; rw [hqt] at this; cases this
    have n2 : withinB u p.f1 = false:=by
     cases hh : withinB u p.f1 with
     | false => rfl
     | true => exact absurd (within_trans (parent_within hq) hh) hqf
    rw [hf,n1,n2,if_neg (by simp),if_neg (by simp),hy]
theorem do_tree {l : List S41} {p : S25} (ht : Tr l) (hp : primB p = true) (h : doE l p = 0) : Tr (doL l p):=by
 obtain ⟨h1,h2⟩:=primB_lo hp
 unfold doE at h
 unfold doL
 by_cases h10 : p.f0 = 10
 ·rw [if_pos h10] at h ⊢
  exact move_tree ht hp h10 h
 ·rw [if_neg h10] at h ⊢
  by_cases h7 : 7 ≤ p.f0
  ·rw [if_pos h7] at h ⊢
   exact change_tree ht hp h7 (by omega) h
  ·rw [if_neg h7] at h ⊢
   by_cases ha : p.f0 = 1 ∨ p.f0 = 3 ∨ p.f0 = 5
   ·rw [if_pos ha] at h ⊢
    exact add_tree ht hp (by omega) h1 h
   ·rw [if_neg ha] at h ⊢
    exact remove_tree ht h
theorem apply_zero {l : List S41} {p : S25} : applyE l p = 0 ↔ Tr l ∧ primB p = true ∧ doE l p = 0:=by
 unfold applyE
 by_cases ht : treeB l = true
 ·by_cases hp : primB p = true
  ·rw [if_pos (by rw [ht,hp]; rfl)]
   exact ⟨fun h => ⟨tree_iff.mp ht,hp,h⟩,fun h => h.2.2⟩
  ·rw [if_neg (by rw [ht]; simpa using hp)]
   exact ⟨(fun h => by cases h),fun h => absurd h.2.1 hp⟩
 ·rw [if_neg (by rw [Bool.and_eq_true]; exact fun k => ht k.1)]
  exact ⟨(fun h => by cases h),fun h => absurd (tree_iff.mpr h.1) ht⟩
theorem apply_tree {l : List S41} {p : S25} (h : applyE l p = 0) : Tr (doL l p):=by
 obtain ⟨a,b,c⟩:=apply_zero.mp h
 exact do_tree a b c
end Go.Proofs.YthhohbidjhcjeaaGreatDoor.H
namespace Go.Proofs
open Go.Shelf
def Tryz.sortE_ren : Go.Shelf.Ren:=⟨fun | 6 => 106 | 15 => 142 | 14 => 141 | 28 => 171 | 29 => 172 | 20 => 163 | 21 => 164 | 22 => 165 | 23 => 166 | 24 => 167 | 25 => 168 | 26 => 169 | 27 => 170 | 46 => 184 | 47 => 185 | 48 => 186 | 49 => 187 | 50 => 188 | 57 => 200 | n => n,fun | 22 => 22 | 24 => 41 | 25 => 122 | 3 => 3 | 39 => 158 | 0 => 0 | 53 => 185 | 55 => 187 | 4 => 4 | 46 => 179 | 45 => 178 | 50 => 110 | 5 => 5 | 9 => 9 | 66 => 201 | 70 => 205 | 76 => 210 | 77 => 211 | n => n,fun | n => n⟩
theorem Tryz.sortE : Go.Proofs.SlLaysF0.n6 Tryz.prog Tryz.sortE_ren:={
 mixed:=by kernel_rfl
 f6:=⟨Tryz.f106.name,by decide,Tryz.func106.trans (congrArg some (by kernel_rfl))⟩
 f14:=⟨Tryz.f141.name,by decide,Tryz.func141.trans (congrArg some (by kernel_rfl))⟩
 f15:=Tryz.func142.trans (congrArg some (by kernel_rfl))
 f20:=⟨Tryz.f163.name,by decide,Tryz.func163.trans (congrArg some (by kernel_rfl))⟩
 f21:=⟨Tryz.f164.name,by decide,Tryz.func164.trans (congrArg some (by kernel_rfl))⟩
 f22:=⟨Tryz.f165.name,by decide,Tryz.func165.trans (congrArg some (by kernel_rfl))⟩
 f23:=⟨Tryz.f166.name,by decide,Tryz.func166.trans (congrArg some (by kernel_rfl))⟩
 f24:=⟨Tryz.f167.name,by decide,Tryz.func167.trans (congrArg some (by kernel_rfl))⟩
 f25:=⟨Tryz.f168.name,by decide,Tryz.func168.trans (congrArg some (by kernel_rfl))⟩
 f26:=⟨Tryz.f169.name,by decide,Tryz.func169.trans (congrArg some (by kernel_rfl))⟩
 f27:=⟨Tryz.f170.name,by decide,Tryz.func170.trans (congrArg some (by kernel_rfl))⟩
 f28:=Tryz.func171.trans (congrArg some (by kernel_rfl))
 f29:=Tryz.func172.trans (congrArg some (by kernel_rfl))
 f46:=⟨Tryz.f184.name,by decide,Tryz.func184.trans (congrArg some (by kernel_rfl))⟩
 f47:=Tryz.func185.trans (congrArg some (by kernel_rfl))
 f48:=Tryz.func186.trans (congrArg some (by kernel_rfl))
 f49:=⟨Tryz.f187.name,by decide,Tryz.func187.trans (congrArg some (by kernel_rfl))⟩
 f50:=⟨Tryz.f188.name,by decide,Tryz.func188.trans (congrArg some (by kernel_rfl))⟩
 f57:=⟨Tryz.f200.name,by decide,Tryz.func200.trans (congrArg some (by kernel_rfl))⟩
 t0:=Tryz.underlying0
 a0:=Tryz.isAgg0
 z0:=Tryz.sizeOf0
 v0:=Tryz.zeroValue0
 t3:=Tryz.underlying3
 a3:=Tryz.isAgg3
 z3:=Tryz.sizeOf3
 v3:=Tryz.zeroValue3
 t4:=Tryz.underlying4
 a4:=Tryz.isAgg4
 z4:=Tryz.sizeOf4
 v4:=Tryz.zeroValue4
 t5:=Tryz.underlying5
 a5:=Tryz.isAgg5
 z5:=Tryz.sizeOf5
 v5:=Tryz.zeroValue5
 t9:=Tryz.underlying9
 a9:=Tryz.isAgg9
 z9:=Tryz.sizeOf9
 v9:=Tryz.zeroValue9
 t22:=Tryz.underlying22
 a22:=Tryz.isAgg22
 z22:=Tryz.sizeOf22
 v22:=Tryz.zeroValue22
 t25:=Tryz.underlying122
 a25:=Tryz.isAgg122
 z25:=Tryz.sizeOf122
 v25:=Tryz.zeroValue122
 t39:=Tryz.underlying158
 a39:=Tryz.isAgg158
 z39:=Tryz.sizeOf158
 v39:=Tryz.zeroValue158
 t45:=Tryz.underlying178
 a45:=Tryz.isAgg178
 z45:=Tryz.sizeOf178
 v45:=Tryz.zeroValue178
 t46:=Tryz.underlying179
 a46:=Tryz.isAgg179
 z46:=Tryz.sizeOf179
 v46:=Tryz.zeroValue179
 t50:=Tryz.underlying110
 a50:=Tryz.isAgg110
 z50:=Tryz.sizeOf110
 v50:=Tryz.zeroValue110
 t53:=Tryz.underlying185
 a53:=Tryz.isAgg185
 z53:=Tryz.sizeOf185
 v53:=Tryz.zeroValue185
 t55:=Tryz.underlying187
 a55:=Tryz.isAgg187
 z55:=Tryz.sizeOf187
 v55:=Tryz.zeroValue187
 t66:=Tryz.underlying201
 a66:=Tryz.isAgg201
 z66:=Tryz.sizeOf201
 v66:=Tryz.zeroValue201
 t70:=Tryz.underlying205
 a70:=Tryz.isAgg205
 z70:=Tryz.sizeOf205
 v70:=Tryz.zeroValue205
 t76:=Tryz.underlying210
 a76:=Tryz.isAgg210
 z76:=Tryz.sizeOf210
 v76:=Tryz.zeroValue210
 t77:=Tryz.underlying211
 a77:=Tryz.isAgg211
 z77:=Tryz.sizeOf211
 v77:=Tryz.zeroValue211 }
end Go.Proofs
namespace Go.Proofs.YthhohbidjhcjeaaGreatDoor.H
open Go.RowKit Go.Shelf Go.Sort Go.Proofs.YthhohbidjhcjeaaGreatDoorW.PrintWords Go.Proofs.YthhohbidjhcjeaaGreatDoorW.PrintLast Go.Proofs.YthhohbidjhcjeaaGreatDoorW.PrintMore
open Go.Proofs.YthhohbidjhcjeaaGreatDoor.Q Go.Proofs.YthhohbidjhcjeaaGreatDoor.Pl
set_option linter.unusedVariables false
set_option linter.unusedSimpArgs false
structure E4 where
 s : S41
 X : Option Addr
 c : Nat
instance : Inhabited E4:=⟨⟨z41,none,0⟩⟩
def encE (e : E4) : List Value:=[.string e.s.f0,.int .i64 e.s.f1,.slice e.X e.s.f2.length e.c,.string e.s.f3]
def cfE (a b : E4) : Int:=cmpP a.s.f0 b.s.f0
theorem ltE (a b : E4) : ltOf cfE a b = ltP a.s.f0 b.s.f0:=by
 unfold ltOf cfE
 rw [Bool.eq_iff_iff,decide_eq_true_eq,cmp_lt]
theorem swoE : SWO (ltOf cfE) where
 irrefl x:=by rw [ltE,ltP_irrefl]
 trans x y z h1 h2:=by rw [ltE] at *; exact ltP_trans h1 h2
 ntrans x y z h1 h2:=by
  rw [ltE] at *
  cases h : ltP x.s.f0 z.s.f0 with
  | false => rfl
  | true =>
   by_cases e : y.s.f0 = x.s.f0
   ·rw [e,h] at h2; cases h2
   ·have:=ltP_total h1 (fun k => e k.symm)
    rw [ltP_trans this h] at h2; cases h2
theorem order_grow (p q : ByteArray) (x1 x2 x3 y1 y2 y3 : Value) (h1 : x1.oneCell' = true) (h2 : x2.oneCell' = true) (h3 : x3.oneCell' = true) (k1 : y1.oneCell' = true) (k2 : y2.oneCell' = true) (k3 : y3.oneCell' = true) (w : World) :
  Calls Tryz.prog 107 #[.agg #[.string p,x1,x2,x3],.agg #[.string q,y1,y2,y3]] w fun e w' => e = .returned (.int .i64 (cmpP p q)) ∧ ∃ n os,w' = grow (w.drewN n) os:=by
 have hC:=fun W => Tryz.strings_Compare p q W
 go_enter Tryz.func107,Tryz.ntmps107
 go_wp2_with (go_at_call 143; refine (hC _).mono ?_; rintro e w' ⟨rfl,rfl⟩)
 go_ret
 first
 | exact ⟨rfl,1,_,by rw [alloc_eq_grow,alloc_eq_grow,grow_grow]; rfl⟩
 | exact ⟨rfl,0,_,by rw [alloc_eq_grow,alloc_eq_grow,grow_grow]; rfl⟩
theorem cmpE (blk off size : Nat) (w : World) : CmpLays Tryz.prog 107 #[] encE 4 cfE blk off size w:=fun m os dk _ x y =>
 order_grow x.s.f0 y.s.f0 _ _ _ _ _ _ rfl rfl rfl rfl rfl rfl _
theorem reps_E {w : World} {l : List S41} {inner : List Value} (h : Reps (Rw w) 4 l inner) : ∀ m,m ≤ l.length → ∃ d : List E4,d.length = m ∧ ∀ j e,d[j]? = some e → l[j]? = some e.s ∧ Re w e.s e.X e.c ∧ (inner.drop (j * 4)).take 4 = encE e
 | 0,_ => ⟨[],rfl,fun j e he => by simp at he⟩
 | m + 1,hm => by
  obtain ⟨d,hd,hall⟩:=reps_E h m (by omega)
  obtain ⟨X,c,e,rx⟩:=h.2 m _ (List.getElem?_eq_getElem (show m < l.length by omega))
  refine ⟨d ++ [⟨l[m],X,c⟩],by rw [List.length_append,hd]; rfl,fun j x hx => ?_⟩
  rcases Nat.lt_or_ge j d.length with hj | hj
  ·rw [List.getElem?_append_left hj] at hx
   exact hall j x hx
  ·have hj' : j = m:=by
    have:=(List.getElem?_eq_some_iff.1 hx).1
    rw [List.length_append,List.length_singleton] at this
    omega
   subst hj'
   rw [List.getElem?_append_right hj,hd,Nat.sub_self] at hx
   have:=Option.some.inj hx
   subst this
   exact ⟨List.getElem?_eq_getElem (show j < l.length by omega),rx,e⟩
theorem below_grow' {B : Nat} {w W : World} (h : Below B w W) (hB : B ≤ W.heap.size) (os : Array Obj) : Below B w (grow W os):=h.trans ⟨rfl,rfl,rfl,by rw [size_grow]; omega,fun k hk => heap_grow_old W os (by omega)⟩
set_option maxHeartbeats 4000000 in
theorem sort_at (w : World) (l : List S41) (g cap : Nat) (W : World) (hrow : Row w W (.slice (some ⟨g,0,none⟩) l.length cap) l) (hB : Below w.heap.size w W) (hl : l.length ≤ 1000000000) (hd : Dis l) :
  Calls Tryz.prog 106 #[.slice (some ⟨g,0,none⟩) l.length cap,.func (.func 107) #[] #[]] W fun e W' => e = .returned (.tuple #[]) ∧ Below w.heap.size w W' ∧ ReadsRow (Rw w) 4 W' (some ⟨g,0,none⟩) l.length (sortV l):=by
 have eg : ∀ args w,(callFunc 107 args).run Tryz.prog w = .ok (.enter 107 args) w:=enters_of Tryz.func107 (by kernel_rfl) rfl
 obtain ⟨inner,⟨hlen,ho⟩,hr⟩:=hrow
 rcases ho with ⟨he,_⟩ | ⟨g',cap',cur,he,hg,hh,hnc,hcm,hcs,ht⟩
 ·cases he
 injection he with e1 e2 e3
 injection e1 with e1
 injection e1 with e1
 subst e1
 obtain ⟨d,hdl,hall⟩:=reps_E hr l.length (Nat.le_refl _)
 have hds : d.toArray.size = l.length:=by simp [hdl]
 have hmap : d.map (·.s) = l:=by
  apply List.ext_getElem?
  intro j
  rw [List.getElem?_map]
  rcases Nat.lt_or_ge j d.length with hj | hj
  ·rw [List.getElem?_eq_getElem hj]
   exact ((hall j _ (List.getElem?_eq_getElem hj)).1).symm
  ·rw [List.getElem?_eq_none hj,List.getElem?_eq_none (by omega)]
   rfl
 have hH : HoldsK encE 4 W g 0 d.toArray:=by
  intro t htt
  rw [size_flatK,hds] at htt
  have hq : t / 4 < d.length:=by omega
  obtain ⟨h1,h2,h3⟩:=hall (t / 4) _ (List.getElem?_eq_getElem hq)
  refine ⟨?_,blk_frozen hh _⟩
  rw [blk_cell hh,Nat.zero_add,get_flatK _ _ _ _ (by rw [hds]; exact htt)]
  have hget : d.toArray[t / 4]! = d[t / 4]:=by
   rw [getElem!_pos d.toArray (t / 4) (by rw [hds]; omega)]
   simp
  rw [hget,← h3]
  have ht' : cur.toList[t]? = inner[t]?:=by
   rw [← ht,List.getElem?_take,if_pos htt]
  have hin : t < inner.length:=by rw [hlen]; exact htt
  have e4 : ((inner.drop (t / 4 * 4)).take 4)[t % 4]! = inner[t]:=by
   rw [getElem!_pos _ _ (by rw [List.length_take,List.length_drop]; omega),List.getElem_take,List.getElem_drop]
   congr 1
   omega
  show cur[t]? = some (id _)
  rw [id,e4,← Array.getElem?_toList,ht',List.getElem?_eq_getElem hin]
 have H:=AnyQ.slices_SortFunc Tryz.sortE 4 Tryz.isAgg41 Tryz.sizeOf41 encE (fun _ => rfl) (fun e v hv => by
   simp only [encE,List.mem_cons,List.not_mem_nil,or_false] at hv
   rcases hv with rfl | rfl | rfl | rfl <;> rfl) cfE swoE 107 #[] g 0 cap d.toArray W eg (cmpE g 0 d.toArray.size W) hH (blk_lt hh) (by rw [hds]; omega)
 rw [hds] at H
 refine H.mono ?_
 rintro e W' ⟨rfl,d',n,os,hp,hsd,rfl⟩
 obtain ⟨hp1,_,hp2⟩:=hp
 have hsz' : d'.size = l.length:=by rw [hp1,hds]
 have hperm : d'.toList.Perm d:=by
  have a1 : (d'.extract 0 l.length).toList = d'.toList:=by rw [← hsz']; simp
  have a2 : (d.toArray.extract 0 l.length).toList = d:=by rw [← hds]; simp
  rw [a1,a2] at hp2
  exact hp2
 have hb : Below w.heap.size w (sortWorldK encE 4 W g 0 n d' os):=by
  unfold sortWorldK putRowK
  have h1:=Go.Lib.below_putRow (enc:=(id : Value → Value)) (q:=n) (d:=flatK encE 4 d') hB hg
  exact below_grow' h1 h1.size os
 refine ⟨rfl,hb,?_⟩
 have hdis : ∀ i j (hi : i < d'.size) (hj : j < d'.size),i < j → d'[i].s.f0 ≠ d'[j].s.f0:=by
  have hdd : (d'.toList.map (·.s)).Pairwise (fun x y => x.f0 ≠ y.f0):=by
   have hpm : (d'.toList.map (·.s)).Perm l:=by rw [← hmap]; exact hperm.map _
   exact (hpm.pairwise_iff (fun h => h.symm)).mpr hd
  intro i j hi hj hij
  have:=List.pairwise_iff_getElem.mp hdd i j (by simpa using hi) (by simpa using hj) hij
  simpa using this
 have hsort : d'.toList.map (·.s) = sortV l:=by
  refine sort_uniq hd ?_ ?_
  ·refine List.pairwise_iff_getElem.mpr fun i j hi hj hij => ?_
   simp only [List.length_map,Array.length_toList] at hi hj
   have h1:=hsd i j (Nat.zero_le _) hij (by rw [← hsz']; exact hj)
   rw [getElem!_pos d' i hi,getElem!_pos d' j hj,ltE] at h1
   have h2:=ltP_total h1 (fun k => hdis i j hi hj hij k.symm)
   simpa using h2
  ·intro z
   rw [← hmap]
   exact (hperm.map _).mem_iff
 rw [← hsort]
 have hHk:=holdsK_sortWorldK encE 4 W g 0 n d.toArray d' os (blk_lt hh) hH (by rw [hp1])
 refine ⟨by rw [List.length_map,Array.length_toList,hsz'],by omega,fun _ => ⟨⟨g,0,none⟩,rfl,fun j p hj => ?_⟩⟩
 rw [List.getElem?_map] at hj
 obtain ⟨x,hx,rfl⟩:=Option.map_eq_some_iff.mp hj
 have hjs : j < d'.size:=by
  have:=(List.getElem?_eq_some_iff.1 hx).1
  simpa using this
 have hxd : x ∈ d:=hperm.mem_iff.mp (List.mem_of_getElem? hx)
 obtain ⟨q,hq,hqe⟩:=List.getElem_of_mem hxd
 have hre:=(hall q x (by rw [List.getElem?_eq_getElem hq,hqe])).2.1
 refine ⟨encE x,rfl,⟨x.X,x.c,rfl,hre⟩,fun i u hu => ?_⟩
 have hi4 : i < 4:=(List.getElem?_eq_some_iff.1 hu).1
 have hc:=(hHk.cell hjs hi4).1
 rw [Addr.add_lit]
 have hx2 : d'[j]! = x:=by
  rw [getElem!_pos d' j hjs]
  have:=(List.getElem?_eq_some_iff.1 hx).2
  simpa using this
 rw [hx2] at hc
 have hu2 : (encE x)[i]! = u:=by
  rw [getElem!_pos _ i hi4]
  exact (List.getElem?_eq_some_iff.1 hu).2
 rw [hu2] at hc
 rw [← Nat.add_assoc]
 exact hc
open Go.RowKit Go.Proofs.YthhohbidjhcjeaaGreatDoor.Q Go.Proofs.YthhohbidjhcjeaaGreatDoor.Pl
theorem doE_add {l : List S41} {p : S25} (h : p.f0 = 1 ∨ p.f0 = 3 ∨ p.f0 = 5) : doE l p = addE l p ∧ doL l p = insL l (newE p):=by
 unfold doE doL
 rw [if_neg (by omega),if_neg (by omega),if_pos h,if_neg (by omega),if_neg (by omega),if_pos h]
 exact ⟨rfl,rfl⟩
theorem doE_remove {l : List S41} {p : S25} (h : p.f0 = 2 ∨ p.f0 = 4 ∨ p.f0 = 6) : doE l p = removeE l p.f1 p.f0 ∧ doL l p = delL l p.f1:=by
 unfold doE doL
 rw [if_neg (by omega),if_neg (by omega),if_neg (by omega),if_neg (by omega),if_neg (by omega),if_neg (by omega)]
 exact ⟨rfl,rfl⟩
theorem doE_change {l : List S41} {p : S25} (h7 : 7 ≤ p.f0) (h9 : p.f0 ≤ 9) : doE l p = changeE l p ∧ doL l p = changeL l p:=by
 unfold doE doL
 rw [if_neg (by omega),if_pos h7,if_neg (by omega),if_pos h7]
 exact ⟨rfl,rfl⟩
theorem doE_move {l : List S41} {p : S25} (h : p.f0 = 10) : doE l p = moveE l p ∧ doL l p = moveL l p:=by
 unfold doE doL
 rw [if_pos h,if_pos h]
 exact ⟨rfl,rfl⟩
theorem kinds4 {p : S25} (h : primB p = true) : (p.f0 = 1 ∨ p.f0 = 3 ∨ p.f0 = 5) ∨ (p.f0 = 2 ∨ p.f0 = 4 ∨ p.f0 = 6) ∨ (7 ≤ p.f0 ∧ p.f0 ≤ 9) ∨ p.f0 = 10:=by
 have:=primB_lo h
 omega
theorem mvP_back {s fr to_ : ByteArray} (h : withinB s to_ = false) : mvP (mvP s fr to_) to_ fr = s:=by
 cases k : withinB s fr with
 | true => rw [mvP_in _ k,mvP_in _ (mv_within to_ k),mv_back to_ k]
 | false => rw [mvP_out _ k,mvP_out _ h]
theorem ofinv_add {p : S25} (h : p.f0 = 1 ∨ p.f0 = 3 ∨ p.f0 = 5) : ((invS p).f0 = 2 ∨ (invS p).f0 = 4 ∨ (invS p).f0 = 6) ∧ (invS p).f1 = p.f1 ∧ newE (invS p) = newE p:=by
 obtain ⟨k,a,b,c,d,e,f⟩:=p
 dsimp only at h
 rcases h with rfl | rfl | rfl
 ·exact ⟨.inl rfl,rfl,rfl⟩
 ·exact ⟨.inr (.inl rfl),rfl,rfl⟩
 ·exact ⟨.inr (.inr rfl),rfl,rfl⟩
theorem ofinv_remove {p : S25} (h : p.f0 = 2 ∨ p.f0 = 4 ∨ p.f0 = 6) : ((invS p).f0 = 1 ∨ (invS p).f0 = 3 ∨ (invS p).f0 = 5) ∧ (invS p).f1 = p.f1 ∧ newE (invS p) = newE p:=by
 obtain ⟨k,a,b,c,d,e,f⟩:=p
 dsimp only at h
 rcases h with rfl | rfl | rfl
 ·exact ⟨.inl rfl,rfl,rfl⟩
 ·exact ⟨.inr (.inl rfl),rfl,rfl⟩
 ·exact ⟨.inr (.inr rfl),rfl,rfl⟩
theorem ofinv_change {p : S25} (h7 : 7 ≤ p.f0) (h9 : p.f0 ≤ 9) : (invS p).f0 = p.f0 ∧ (invS p).f1 = p.f1 ∧ (invS p).f4 = p.f4 ∧ (p.f0 = 7 → (invS p).f5 = p.f6 ∧ (invS p).f6 = p.f5) ∧ (8 ≤ p.f0 → (invS p).f3 = p.f2 ∧ (invS p).f2 = p.f3):=by
 obtain ⟨k,a,b,c,d,e,f⟩:=p
 dsimp only at h7 h9
 have : k = 7 ∨ k = 8 ∨ k = 9:=by omega
 rcases this with rfl | rfl | rfl
 ·exact ⟨rfl,rfl,rfl,fun _ => ⟨rfl,rfl⟩,fun h => absurd h (show ¬ (8 : Int) ≤ 7 by decide)⟩
 ·exact ⟨rfl,rfl,rfl,fun h => absurd h (show ¬ (8 : Int) = 7 by decide),fun _ => ⟨rfl,rfl⟩⟩
 ·exact ⟨rfl,rfl,rfl,fun h => absurd h (show ¬ (9 : Int) = 7 by decide),fun _ => ⟨rfl,rfl⟩⟩
theorem ofinv_move {p : S25} (h : p.f0 = 10) : (invS p).f0 = 10 ∧ (invS p).f1 = p.f2 ∧ (invS p).f2 = p.f1:=by
 obtain ⟨k,a,b,c,d,e,f⟩:=p
 dsimp only at h
 subst h
 exact ⟨rfl,rfl,rfl⟩
theorem change_back {x y : S41} {p : S25} (hp : primB p = true) (h7 : 7 ≤ p.f0) (h9 : p.f0 ≤ 9) (h : changeV x p = some y) : changeV y (invS p) = some x:=by
 obtain ⟨i0,i1,i4,i5,i3⟩:=ofinv_change h7 h9
 have : p.f0 = 7 ∨ p.f0 = 8 ∨ p.f0 = 9:=by omega
 unfold changeV at h ⊢
 rw [i0]
 rcases this with k | k | k
 ·rw [if_pos k] at h ⊢
  obtain ⟨l,hl,rfl⟩:=Option.map_eq_some_iff.mp h
  rw [i4,(i5 k).1,(i5 k).2]
  show Option.map (fun l => { x with f2:=l }) (hunkV l p.f4 p.f6 p.f5) = _
  rw [hunk_back hl]
  rfl
 ·rw [if_neg (by omega),if_pos k] at h ⊢
  obtain ⟨l,hl,rfl⟩:=Option.map_eq_some_iff.mp h
  rw [(i3 (by omega)).1,(i3 (by omega)).2]
  obtain ⟨a,b,c⟩:=prim_token hp k
  show Option.map (fun l => { x with f2:=l }) (tokV l p.f2 p.f3) = _
  rw [tok_back a b c hl]
  rfl
 ·rw [if_neg (by omega),if_neg (by omega)] at h ⊢
  split at h
  ·rename_i e
   rw [← Option.some.inj h,(i3 (by omega)).1,(i3 (by omega)).2]
   simp only [if_true]
   rw [← e]
  ·cases h
theorem move_back {l : List S41} {fr to_ : ByteArray} (hs : Srt l) (h1 : ∀ x ∈ l,withinB x.f0 to_ = false) (ap : apartB fr to_ = true) : (∀ x ∈ sortV (l.map (mvX fr to_)),withinB x.f0 fr = false) ∧ sortV ((sortV (l.map (mvX fr to_))).map (mvX to_ fr)) = l:=by
 obtain ⟨a1,a2⟩:=apart_within ap
 have hd:=move_dis hs (fr:=fr) h1
 have hn : ∀ x ∈ sortV (l.map (mvX fr to_)),withinB x.f0 fr = false:=by
  intro x hx
  rw [sort_mem] at hx
  obtain ⟨z,hz,rfl⟩:=List.mem_map.mp hx
  show withinB (mvP z.f0 fr to_) fr = false
  cases k : withinB z.f0 fr with
  | false => rw [mvP_out _ k,k]
  | true =>
   rw [mvP_in _ k]
   cases m : withinB (mv z.f0 fr to_) fr with
   | false => rfl
   | true =>
    rcases within_line (mv_within to_ k) m with h | h
    ·rw [a2] at h; cases h
    ·rw [a1] at h; cases h
 refine ⟨hn,srt_ext (sort_srt (move_dis (sort_srt hd) hn)) hs fun s => ?_⟩
 rw [move_find (sort_srt hd) hn]
 cases hf : withinB s fr with
 | true =>
  have hm:=mv_within to_ hf
  rw [if_pos rfl,move_find hs h1,hm,if_pos rfl,mv_back to_ hf]
  cases hx : findV l s with
  | none => rfl
  | some x =>
   rw [Option.bind_some,if_pos hf,Option.bind_some,if_pos rfl]
   have:=(find_mem hx).2
   rw [← this]
 | false =>
  rw [if_neg (by simp)]
  cases ht : withinB s to_ with
  | true =>
   rw [if_pos rfl]
   exact (find_none.mpr fun x hx e => by have:=h1 x hx; rw [e,ht] at this; cases this).symm
  | false => rw [if_neg (by simp),move_find hs h1,ht,hf,if_neg (by simp),if_neg (by simp)]
theorem undo {l : List S41} {p : S25} (h : applyE l p = 0) : applyE (doL l p) (invS p) = 0 ∧ doL (doL l p) (invS p) = l:=by
 have hT:=apply_tree h
 obtain ⟨ht,hp,hd⟩:=apply_zero.mp h
 have hq:=primB_inv hp
 rw [apply_zero]
 refine (fun (k : doE (doL l p) (invS p) = 0 ∧ doL (doL l p) (invS p) = l) => ⟨⟨hT,hq,k.1⟩,k.2⟩) ?_
 rcases kinds4 hp with hk | hk | ⟨h7,h9⟩ | h10
 ·obtain ⟨e1,e2⟩:=doE_add (l:=l) hk
  rw [e1] at hd
  rw [e2] at hT ⊢
  obtain ⟨i0,i1,i2⟩:=ofinv_add hk
  obtain ⟨e3,e4⟩:=doE_remove (l:=insL l (newE p)) i0
  rw [e3,e4,i1]
  obtain ⟨hn,hu,hl⟩:=add_zero.mp hd
  have hf:=ins_find ht.s (x:=newE p) hn
  have hnw:=ht.none_within hn
  have hfp : findV (insL l (newE p)) p.f1 = some (newE p):=by rw [hf]; exact if_pos rfl
  refine ⟨?_,?_⟩
  ·have:=remove_zero hT.s (p:=invS p)
   rw [i1,i2] at this
   rw [this]
   refine ⟨hfp,fun x hx hw => ?_⟩
   rcases ins_mem.mp hx with rfl | hx
   ·rfl
   ·rw [hnw x hx] at hw; cases hw
  ·refine srt_ext (del_srt hT.s _) ht.s fun s => ?_
   rw [del_find hT.s hfp,hf]
   by_cases e : s = p.f1
   ·rw [if_pos e,e,hn]
   ·rw [if_neg e]; exact if_neg e
 ·obtain ⟨e1,e2⟩:=doE_remove (l:=l) hk
  rw [e1] at hd
  rw [e2] at hT ⊢
  obtain ⟨i0,i1,i2⟩:=ofinv_remove hk
  obtain ⟨e3,e4⟩:=doE_add (l:=delL l p.f1) i0
  rw [e3,e4,i2]
  obtain ⟨hn,hi⟩:=(remove_zero ht.s).mp hd
  have hf:=del_find ht.s hn
  have hfp : findV (delL l p.f1) p.f1 = none:=by rw [hf,if_pos rfl]
  refine ⟨?_,?_⟩
  ·rw [add_zero,i1]
   refine ⟨hfp,fun u hu => ?_,?_⟩
   ·obtain ⟨y,hy,k⟩:=ht.parent hn hu
    exact ⟨y,by rw [hf,if_neg (ltP_ne (parent_lt hu)),hy],k⟩
   ·have:=del_len ht.s hn
    have:=ht.n
    omega
  ·refine srt_ext (ins_srt hT.s hfp) ht.s fun s => ?_
   rw [ins_find hT.s (x:=newE p) hfp,hf]
   have e1 : (newE p).f0 = p.f1:=rfl
   rw [e1]
   by_cases e : s = p.f1
   ·rw [if_pos e,e,hn]
   ·rw [if_neg e,if_neg e]
 ·obtain ⟨e1,e2⟩:=doE_change (l:=l) h7 h9
  rw [e1] at hd
  rw [e2] at hT ⊢
  obtain ⟨i0,i1,_⟩:=ofinv_change h7 h9
  obtain ⟨e3,e4⟩:=doE_change (l:=changeL l p) (p:=invS p) (by omega) (by omega)
  rw [e3,e4]
  obtain ⟨x,y,hx,hk,hc⟩:=change_zero.mp hd
  obtain ⟨c0,c1⟩:=change_f0 hc
  have hx0:=(find_mem hx).2
  rw [change_L hx hc] at hT ⊢
  have hf:=set_find ht.s hx (c0.trans hx0)
  have hfp : findV (setL l p.f1 y) p.f1 = some y:=by rw [hf,if_pos rfl]
  have hcb:=change_back hp h7 h9 hc
  refine ⟨?_,?_⟩
  ·rw [change_zero,i0,i1]
   exact ⟨y,x,hfp,by rw [c1,hk],hcb⟩
  ·have hfp' : findV (setL l p.f1 y) (invS p).f1 = some y:=by rw [i1]; exact hfp
   rw [change_L hfp' hcb,i1]
   refine srt_ext (set_srt hT.s hfp hx0) ht.s fun s => ?_
   rw [set_find hT.s hfp hx0,hf]
   by_cases e : s = p.f1
   ·rw [if_pos e,e,hx]
   ·rw [if_neg e,if_neg e]
 ·obtain ⟨e1,e2⟩:=doE_move (l:=l) h10
  rw [e1] at hd
  rw [e2] at hT ⊢
  obtain ⟨i0,i1,i2⟩:=ofinv_move h10
  obtain ⟨e3,e4⟩:=doE_move (l:=moveL l p) i0
  rw [e3,e4]
  obtain ⟨⟨x0,hx0⟩,hn,hu,hr⟩:=move_zero.mp hd
  obtain ⟨_,hap⟩:=prim_move hp h10
  obtain ⟨a1,a2⟩:=apart_within hap
  have hnw:=ht.none_within hn
  have hf:=move_find ht.s (fr:=p.f1) hnw
  obtain ⟨hnb,hback⟩:=move_back ht.s hnw hap
  refine ⟨?_,?_⟩
  ·rw [move_zero,i1,i2]
   refine ⟨?_,?_,fun u hq => ?_,fun x hx => ?_⟩
   ·refine ⟨{ x0 with f0:=p.f2 },?_⟩
    unfold moveL
    have hm : mv p.f2 p.f2 p.f1 = p.f1:=by
     have:=mv_data (s:=p.f2) (fr:=p.f2) p.f1 (r:=[]) (by simp)
     exact data_inj (by rw [this]; simp)
    rw [hf,within_refl,if_pos rfl,hm,hx0,Option.bind_some,within_refl,if_pos rfl]
   ·unfold moveL
    exact find_none.mpr fun x hx e => by have:=hnb x hx; rw [e,within_refl] at this; cases this
   ·obtain ⟨y,hy,k⟩:=ht.parent hx0 hq
    refine ⟨y,?_,k⟩
    have n1 : withinB u p.f2 = false:=by
     cases hh : withinB u p.f2 with
     | false => rfl
     | true => have:=within_trans (parent_within hq) hh; rw [a1] at this; cases this
    have n2 : withinB u p.f1 = false:=by
     cases hh : withinB u p.f1 with
     | false => rfl
     | true => exact absurd (within_antisymm hh (parent_within hq)) (ltP_ne (parent_lt hq))
    unfold moveL
    rw [hf,n1,n2,if_neg (by simp),if_neg (by simp),hy]
   ·unfold moveL at hx
    rw [sort_mem] at hx
    obtain ⟨z,hz,rfl⟩:=List.mem_map.mp hx
    show rightB (mvP (mvP z.f0 p.f1 p.f2) p.f2 p.f1) = true
    rw [mvP_back (hnw z hz)]
    exact ((thing_iff z).mp (ht.t z hz)).1
  ·unfold moveL
   rw [i1,i2]
   exact hback
def runV : List S41 → List S25 → Option (List S41)
 | l,[] => some l
 | l,p :: ps => if applyE l p = 0 then runV (doL l p) ps else none
theorem run_append : ∀ (a : List S25) (l : List S41) (b : List S25),runV l (a ++ b) = (runV l a).bind (fun k => runV k b)
 | [],l,b => rfl
 | p :: a,l,b => by
  show (if applyE l p = 0 then runV (doL l p) (a ++ b) else none) = _
  show _ = (if applyE l p = 0 then runV (doL l p) a else none).bind _
  by_cases h : applyE l p = 0
  ·rw [if_pos h,if_pos h,run_append]
  ·rw [if_neg h,if_neg h]; rfl
theorem all_run : ∀ (ps : List S25) (l : List S41) (i : Nat),(∃ k,runV l ps = some k ∧ allV l ps i = (k,0,0)) ∨ (∃ e j,runV l ps = none ∧ e ≠ 0 ∧ allV l ps i = ([],e,j))
 | [],l,i => .inl ⟨l,rfl,rfl⟩
 | p :: ps,l,i => by
  show (∃ k,(if applyE l p = 0 then runV (doL l p) ps else none) = some k ∧ (if applyE l p = 0 then allV (doL l p) ps (i + 1) else ([],applyE l p,i)) = (k,0,0)) ∨ _
  by_cases h : applyE l p = 0
  ·rcases all_run ps (doL l p) (i + 1) with ⟨k,h1,h2⟩ | ⟨e,j,h1,h2,h3⟩
   ·exact .inl ⟨k,by rw [if_pos h,h1],by rw [if_pos h,h2]⟩
   ·exact .inr ⟨e,j,by show (if applyE l p = 0 then runV (doL l p) ps else none) = none; rw [if_pos h,h1],h2,by show (if applyE l p = 0 then allV (doL l p) ps (i + 1) else ([],applyE l p,i)) = _; rw [if_pos h,h3]⟩
  ·exact .inr ⟨applyE l p,i,by show (if applyE l p = 0 then runV (doL l p) ps else none) = none; rw [if_neg h],h,by show (if applyE l p = 0 then allV (doL l p) ps (i + 1) else ([],applyE l p,i)) = _; rw [if_neg h]⟩
theorem run_tree : ∀ (ps : List S25) (l k : List S41),Tr l → runV l ps = some k → Tr k
 | [],l,k,ht,h => by rw [← Option.some.inj h]; exact ht
 | p :: ps,l,k,ht,h => by
  have h' : (if applyE l p = 0 then runV (doL l p) ps else none) = some k:=h
  split at h'
  ·rename_i h0
   exact run_tree ps _ k (apply_tree h0) h'
  ·cases h'
open Go.RowKit Go.Shelf Go.Proofs.YthhohbidjhcjeaaGreatDoorW.PrintWords Go.Proofs.YthhohbidjhcjeaaGreatDoorW.PrintLast Go.Proofs.YthhohbidjhcjeaaGreatDoorW.PrintMore
set_option maxHeartbeats 1000000 in
set_option maxRecDepth 100000 in
theorem moved_calls (p fr dst : ByteArray) (w : World) (hs : dst.size + p.size ≤ 140737488355328) : Calls Tryz.prog 105 #[.string p,.string fr,.string dst] w fun e w' => e = .returned (.tuple #[.string (if withinB p fr then mv p fr dst else e0),.bool (withinB p fr)]) ∧ Below w.heap.size w w':=by
 have hW:=path_Within.calls p fr (withinB p fr) w (within_f p fr)
 cases hb : withinB p fr with
 | false =>
  rw [hb] at hW
  rw [if_neg (by simp)]
  unfold e0
  go_enter Tryz.func105,Tryz.ntmps105
  go_wp2_with (go_at_call 98; refine hW.mono ?_; rintro e w' ⟨rfl,m,rfl⟩)
  refine bodyPost_ret ?_ rfl ⟨rfl,pw_below_drewN (Below.refl _ w) m⟩
  simp [results,Tryz.results105]
 | true =>
  have hle:=within_size hb
  rw [hb] at hW
  rw [if_pos rfl]
  unfold mv
  have hlen : (dst.size : Int) + ((p.size - fr.size : Nat) : Int) ≤ 9223372036854775807:=by omega
  have hsl : ∀ W,(Instr.slice 9 (.string p) (some (.int .i64 (fr.size : Int))) none none).run Tryz.prog W = .ok (.string (p.extract fr.size p.size)) W:=fun W => by
   rw [run_slice_string_from_if W 9 p .i64 _ Tryz.underlying9,if_pos ⟨by omega,by omega⟩,Int.toNat_natCast]
  go_enter Tryz.func105,Tryz.ntmps105
  go_wp2_with (go_at_call 98; refine hW.mono ?_; rintro e w' ⟨rfl,m,rfl⟩)
  refine bodyPost_ret ?_ rfl ⟨rfl,pw_below_drewN (Below.refl _ w) m⟩
  simp [results,Tryz.results105]
theorem ent_of {u : World} {L : List S41} {cur : Array Value} {n i : Nat} {x : S41} (hr : Reps (Rw u) 4 L (cur.toList.take (n * 4))) (hx : L[i]? = some x) : ∃ X d,Ent cur (i * 4) x X d ∧ Re u x X d:=by
 obtain ⟨X,d,hcs4,rx⟩:=hr.2 i x hx
 have key : ∀ k u,[Value.string x.f0,Value.int .i64 x.f1,Value.slice X x.f2.length d,Value.string x.f3][k]? = some u → cur[i * 4 + k]? = some u:=by
  intro k u hu
  rw [← hcs4,List.getElem?_take] at hu
  split at hu
  ·rw [List.getElem?_drop,List.getElem?_take] at hu
   split at hu
   ·simpa using hu
   ·cases hu
  ·cases hu
 exact ⟨X,d,⟨key 0 _ rfl,key 1 _ rfl,key 2 _ rfl,key 3 _ rfl⟩,rx⟩
theorem ent_set0 {cur : Array Value} {o : Nat} {x : S41} {X : Option Addr} {c : Nat} (h : Ent cur o x X c) (s : ByteArray) : Ent (cur.setIfInBounds o (.string s)) o { x with f0:=s } X c:=by
 refine ⟨?_,?_,?_,?_⟩
 ·have : o < cur.size:=(Array.getElem?_eq_some_iff.1 h.c0).1
  rw [Array.getElem?_setIfInBounds_self_of_lt this]
 ·rw [Array.getElem?_setIfInBounds_ne (by omega)]; exact h.c1
 ·rw [Array.getElem?_setIfInBounds_ne (by omega)]; exact h.c2
 ·rw [Array.getElem?_setIfInBounds_ne (by omega)]; exact h.c3
def mvL (l : List S41) (fr to_ : ByteArray) (i : Nat) : List S41:=(l.take i).map (mvX fr to_) ++ l.drop i
theorem mvL_len (l : List S41) (fr to_ : ByteArray) (i : Nat) : (mvL l fr to_ i).length = l.length:=by
 unfold mvL
 rw [List.length_append,List.length_map,List.length_take,List.length_drop]
 omega
theorem mvL_get (l : List S41) (fr to_ : ByteArray) (i : Nat) (h : i < l.length) : (mvL l fr to_ i)[i]? = some l[i]:=by
 unfold mvL
 rw [List.getElem?_append_right (by rw [List.length_map,List.length_take]; omega),List.length_map,List.length_take,Nat.min_eq_left (by omega),Nat.sub_self,List.getElem?_drop]
 simp [List.getElem?_eq_getElem h]
theorem mvL_set (l : List S41) (fr to_ : ByteArray) (i : Nat) (h : i < l.length) : mvL l fr to_ (i + 1) = (mvL l fr to_ i).set i (mvX fr to_ l[i]):=by
 unfold mvL
 have hl : ((l.take i).map (mvX fr to_)).length = i:=by rw [List.length_map,List.length_take]; omega
 have h1 : l.drop i = l[i] :: l.drop (i + 1):=List.drop_eq_getElem_cons h
 rw [List.take_succ_eq_append_getElem h,List.map_append,h1,List.append_assoc]
 rw [List.set_append_right _ _ (by omega),hl,Nat.sub_self]
 rfl
theorem mvL_same (l : List S41) (fr to_ : ByteArray) (i : Nat) (h : i < l.length) (hw : withinB (l[i]).f0 fr = false) : mvL l fr to_ (i + 1) = mvL l fr to_ i:=by
 rw [mvL_set l fr to_ i h]
 have e : mvX fr to_ l[i] = l[i]:=by
  unfold mvX
  rw [mvP_out _ hw]
 rw [e]
 apply List.ext_getElem?
 intro j
 rw [List.getElem?_set]
 by_cases hj : i = j
 ·subst hj
  rw [if_pos rfl,if_pos (by rw [mvL_len]; exact h),mvL_get l fr to_ i h]
 ·rw [if_neg hj]
theorem mvL_all (l : List S41) (fr to_ : ByteArray) : mvL l fr to_ l.length = l.map (mvX fr to_):=by
 unfold mvL
 simp
theorem mvL_zero (l : List S41) (fr to_ : ByteArray) : mvL l fr to_ 0 = l:=by simp [mvL]
theorem pieces_sum (c : UInt8) : ∀ l : List UInt8,((pieces c l).map (fun y => y.length + 1)).sum = l.length + 1
 | [] => rfl
 | b :: l => by
  have ih:=pieces_sum c l
  unfold pieces
  split
  ·rw [List.map_cons,List.sum_cons,ih,List.length_cons,List.length_nil]
   omega
  ·cases h : pieces c l with
   | nil => exact absurd h (pieces_ne c l)
   | cons p r =>
    rw [h,List.map_cons,List.sum_cons] at ih
    show ((((b :: p) :: r).map (fun y => y.length + 1)).sum) = _
    rw [List.map_cons,List.sum_cons,List.length_cons,List.length_cons]
    omega
theorem sum_le : ∀ L : List (List UInt8),(∀ y ∈ L,y.length ≤ 16) → (L.map (fun y => y.length + 1)).sum ≤ 17 * L.length
 | [],_ => Nat.le_refl _
 | y :: L,h => by
  have ih:=sum_le L (fun z hz => h z (List.mem_cons_of_mem _ hz))
  have h1:=h y (List.mem_cons_self ..)
  rw [List.map_cons,List.sum_cons,List.length_cons]
  omega
theorem part_size {s : ByteArray} (h : partB s = true) : s.size ≤ 16:=by
 unfold partB at h
 by_cases h0 : s.toList = []
 ·rw [if_pos h0] at h
  cases h
 ·rw [if_neg h0] at h
  by_cases h1 : s.size ≤ 16
  ·exact h1
  ·rw [if_neg h1] at h
   cases h
theorem right_size {s : ByteArray} (h : rightB s = true) : s.size ≤ 136:=by
 unfold rightB at h
 simp only [Bool.and_eq_true,List.all_eq_true,decide_eq_true_eq] at h
 have h1:=sum_le (pieces 47 s.data.toList) (fun y hy => by
  have:=part_size (h.1 y hy)
  have e : (⟨y.toArray⟩ : ByteArray).size = y.length:=by simp [ByteArray.size]
  omega)
 rw [pieces_sum,dlen] at h1
 omega
end Go.Proofs.YthhohbidjhcjeaaGreatDoor.H
namespace Go.Proofs.YthhohbidjhcjeaaGreatDoor.Q
open Go.RowKit Go.Proofs.YthhohbidjhcjeaaGreatDoorW.PrintWords Go.Proofs.YthhohbidjhcjeaaGreatDoorW.PrintLast Go.Proofs.YthhohbidjhcjeaaGreatDoorW.PrintMore
attribute [local go_sem] max2_int min2_int max_two min_two max_three min_three max_four min_four   -- for this text's walks alone
set_option linter.unusedVariables false
set_option linter.unusedSimpArgs false

mutual
def counterpanelaw07_Great.l0 : Nat → List (S41) → Int → Int → Option (Bool)
 | 0,_,_,_ => none
 | k + 1,x0,x3,x4 => if x4 < (x0.length : Int) then (counterpanelaw07_Great.j1 k x0 x3 x4 (decide (x3 < 4000))) else (counterpanelaw07_Great.j1 k x0 x3 x4 false)
def counterpanelaw07_Great.j1 : Nat → List (S41) → Int → Int → Bool → Option (Bool)
 | 0,_,_,_,_ => none
 | k + 1,x0,x3,x4,x16 => if x16 = true then (if 0 ≤ x4 then (if x4 < (x0.length : Int) then (counterpanelaw07_Great.l1 k x0 (wrap64 ((wrap64 ((wrap64 (x3 + (((rd_T41 x0 x4).f2).length : Int))) + (mn (((rd_T41 x0 x4).f3).size : Int) 4000))) + (mn (((rd_T41 x0 x4).f0).size : Int) 4000))) x4 0) else (none)) else (none)) else (some (decide (x3 ≥ 4000)))
def counterpanelaw07_Great.l1 : Nat → List (S41) → Int → Int → Int → Option (Bool)
 | 0,_,_,_,_ => none
 | k + 1,x0,x3,x4,x5 => if 0 ≤ x4 then (if x4 < (x0.length : Int) then (if x5 < (((rd_T41 x0 x4).f2).length : Int) then (if x3 < 4000 then (if 0 ≤ x5 then (counterpanelaw07_Great.l1 k x0 (wrap64 (x3 + (mn ((rdOf ByteArray.empty ((rd_T41 x0 x4).f2) x5).size : Int) 4000))) x4 (wrap64 (x5 + 1))) else (none)) else (counterpanelaw07_Great.l0 k x0 x3 (wrap64 (x4 + 1)))) else (counterpanelaw07_Great.l0 k x0 x3 (wrap64 (x4 + 1)))) else (none)) else (none)
end
def counterpanelaw07_Great.f (k : Nat) (l0 : List (S41)) : Option (Bool):=counterpanelaw07_Great.l0 k l0 (wrap64 (5 * (l0.length : Int))) 0
theorem counterpanelaw07_Great.mono_l : ∀ k,(∀ y0 y1 y2,LeO (counterpanelaw07_Great.l0 k y0 y1 y2) (counterpanelaw07_Great.l0 (k + 1) y0 y1 y2)) ∧ (∀ y0 y1 y2 y3,LeO (counterpanelaw07_Great.j1 k y0 y1 y2 y3) (counterpanelaw07_Great.j1 (k + 1) y0 y1 y2 y3)) ∧ (∀ y0 y1 y2 y3,LeO (counterpanelaw07_Great.l1 k y0 y1 y2 y3) (counterpanelaw07_Great.l1 (k + 1) y0 y1 y2 y3))
 | 0 => ⟨fun _ _ _ r h => by simp [counterpanelaw07_Great.l0] at h,fun _ _ _ _ r h => by simp [counterpanelaw07_Great.j1] at h,fun _ _ _ _ r h => by simp [counterpanelaw07_Great.l1] at h⟩
 | k + 1 => by
  obtain ⟨ih0,ih1,ih2⟩:=counterpanelaw07_Great.mono_l k
  refine ⟨?_,?_,?_⟩
  ·intro y0 y1 y2
   unfold counterpanelaw07_Great.l0
   repeat' first
   | (with_reducible exact ih0 _ _ _)
   | (with_reducible exact ih1 _ _ _ _)
   | (with_reducible exact ih2 _ _ _ _)
   | (with_reducible exact LeO.refl _)
   | (with_reducible exact LeO.none _)
   | (with_reducible refine LeO.ite ?_ ?_)
   | (with_reducible refine LeO.bind ?_ (fun _ => ?_))
   | exact ih0 _ _ _
   | exact ih1 _ _ _ _
   | exact ih2 _ _ _ _
   | exact LeO.none _
   | refine LeO.ite ?_ ?_
   | refine LeO.bind ?_ (fun _ => ?_)
  ·intro y0 y1 y2 y3
   unfold counterpanelaw07_Great.j1
   repeat' first
   | (with_reducible exact ih0 _ _ _)
   | (with_reducible exact ih1 _ _ _ _)
   | (with_reducible exact ih2 _ _ _ _)
   | (with_reducible exact LeO.refl _)
   | (with_reducible exact LeO.none _)
   | (with_reducible refine LeO.ite ?_ ?_)
   | (with_reducible refine LeO.bind ?_ (fun _ => ?_))
   | exact ih0 _ _ _
   | exact ih1 _ _ _ _
   | exact ih2 _ _ _ _
   | exact LeO.none _
   | refine LeO.ite ?_ ?_
   | refine LeO.bind ?_ (fun _ => ?_)
  ·intro y0 y1 y2 y3
   unfold counterpanelaw07_Great.l1
   repeat' first
   | (with_reducible exact ih0 _ _ _)
   | (with_reducible exact ih1 _ _ _ _)
   | (with_reducible exact ih2 _ _ _ _)
   | (with_reducible exact LeO.refl _)
   | (with_reducible exact LeO.none _)
   | (with_reducible refine LeO.ite ?_ ?_)
   | (with_reducible refine LeO.bind ?_ (fun _ => ?_))
   | exact ih0 _ _ _
   | exact ih1 _ _ _ _
   | exact ih2 _ _ _ _
   | exact LeO.none _
   | refine LeO.ite ?_ ?_
   | refine LeO.bind ?_ (fun _ => ?_)
theorem counterpanelaw07_Great.mono : ∀ a0 k,LeO (counterpanelaw07_Great.f k a0) (counterpanelaw07_Great.f (k + 1) a0):=by
 intro a0 k
 obtain ⟨ih0,ih1,ih2⟩:=counterpanelaw07_Great.mono_l k
 unfold counterpanelaw07_Great.f
 repeat' first
   | (with_reducible exact ih0 _ _ _)
   | (with_reducible exact ih1 _ _ _ _)
   | (with_reducible exact ih2 _ _ _ _)
   | (with_reducible exact LeO.refl _)
   | (with_reducible exact LeO.none _)
   | (with_reducible refine LeO.ite ?_ ?_)
   | (with_reducible refine LeO.bind ?_ (fun _ => ?_))
   | exact ih0 _ _ _
   | exact ih1 _ _ _ _
   | exact ih2 _ _ _ _
   | exact LeO.none _
   | refine LeO.ite ?_ ?_
   | refine LeO.bind ?_ (fun _ => ?_)
set_option maxHeartbeats 8000000 in
set_option maxRecDepth 100000 in
theorem counterpanelaw07_Great.calls (k : Nat) (A0 : Option Addr) (c0 : Nat) (l0 : List (S41)) (r : Bool) (w : World) (hr0 : Kd.C k41 w A0 l0.length l0) (hc0 : l0.length ≤ c0) (h : counterpanelaw07_Great.f k l0 = some r) :
  Calls Tryz.prog 21 #[.slice A0 l0.length c0] w fun e w' => e = .returned (.bool r) ∧ Below w.heap.size w w':=by
 have HR0:=Aside0.mk hr0
 have HC0:=Aside0.mk hc0
 clear hr0 hc0
 have HB:=Aside0.mk (Below.refl w.heap.size w)
 have H : (counterpanelaw07_Great.l0 k l0 (wrap64 (5 * (l0.length : Int))) 0) = some r:=h
 clear h
 have H':=Aside0.mk H
 clear H
 go_enter Tryz.func21,Tryz.ntmps21
 go_wp2
 repeat (go_quiet (fail); try go_wp2)
 go_loopg [3,4] k (fun kq v3 v4 w' => ∃ (x3_1 : Int) (x4_1 : Int),v3 = .int .i64 x3_1 ∧ v4 = .int .i64 x4_1 ∧ Aside0 (counterpanelaw07_Great.l0 kq l0 x3_1 x4_1 = some r) ∧ Aside0 (kq ≤ k) ∧ Aside0 (Below w.heap.size w w'))
 case atStart => exact ⟨(wrap64 (5 * (l0.length : Int))),(0),(by first | rfl | (simp; done) | (simp [*]; done)),(by first | rfl | (simp; done) | (simp [*]; done)),H',⟨Nat.le_refl _⟩,⟨by repeat (first | (with_reducible first | exact HB.out | apply below_alloc | apply pw_below_drewN | apply below_drew1) | exact HB.out)⟩⟩
 case round =>
  clear H'
  obtain ⟨x3_1,x4_1,rfl,rfl,HA,HK1,HB⟩:=hrel
  cases gk with
  | zero => exact absurd HA.out (by simp [counterpanelaw07_Great.l0])
  | succ k1 =>
   have H:=HA.out
   clear HA
   simp only [counterpanelaw07_Great.l0] at H
   have HC2:=Aside0.mk H
   clear H
   go_upto_region 3 with (fail)
   repeat (go_quiet (fail); go_upto_region 3 with (fail))
   go_cut [16] (fun v16 wc => ∃ (kq : Nat) (x16_1 : Bool),v16 = .bool x16_1 ∧ Aside0 (counterpanelaw07_Great.j1 kq l0 x3_1 x4_1 x16_1 = some r) ∧ Aside0 (kq ≤ k1) ∧ Aside0 (Below w.heap.size w wc))
   case first =>
    have H:=HC2.out
    clear HC2
    by_cases c3 : x4_1 < (l0.length : Int)
    ·rw [if_pos c3] at H
     have c3b0 : decide (x4_1 < (l0.length : Int)) = true:=decide_eq_true c3
     clear c3
     (first | rw [c3b0] | (simp only [i64_w,i32_w]; rw [c3b0]) | skip)
     have H':=Aside0.mk H
     clear H
     go_wp2
     repeat (go_quiet (fail); try go_wp2)
     go_meet
     case rel => exact ⟨_,(decide (x3_1 < 4000)),(by first | rfl | (simp; done) | (simp [*]; done)),H',⟨by have:=HK1.out; first | omega | exact Nat.le_refl _⟩,⟨by repeat (first | (with_reducible first | exact HB.out | apply below_alloc | apply pw_below_drewN | apply below_drew1) | exact HB.out)⟩⟩
    ·rw [if_neg c3] at H
     have c3b0 : decide (x4_1 < (l0.length : Int)) = false:=decide_eq_false c3
     clear c3
     (first | rw [c3b0] | (simp only [i64_w,i32_w]; rw [c3b0]) | skip)
     have H':=Aside0.mk H
     clear H
     go_wp2
     repeat (go_quiet (fail); try go_wp2)
     go_meet
     case rel => exact ⟨_,(false),(by first | rfl | (simp; done) | (simp [*]; done)),H',⟨by have:=HK1.out; first | omega | exact Nat.le_refl _⟩,⟨by repeat (first | (with_reducible first | exact HB.out | apply below_alloc | apply pw_below_drewN | apply below_drew1) | exact HB.out)⟩⟩
   case rest =>
    clear HC2
    try clear c2
    try clear p2
    try clear c3
    try clear c3b0
    obtain ⟨kq,x16_1,rfl,HA,HJ1,HB⟩:=hcut
    cases kq with
    | zero => exact absurd HA.out (by simp [counterpanelaw07_Great.j1])
    | succ kj1 =>
     have H:=HA.out
     clear HA
     simp only [counterpanelaw07_Great.j1] at H
     by_cases c4 : x16_1 = true
     ·subst c4
      have H1 : (if 0 ≤ x4_1 then (if x4_1 < (l0.length : Int) then (counterpanelaw07_Great.l1 kj1 l0 (wrap64 ((wrap64 ((wrap64 (x3_1 + (((rd_T41 l0 x4_1).f2).length : Int))) + (mn (((rd_T41 l0 x4_1).f3).size : Int) 4000))) + (mn (((rd_T41 l0 x4_1).f0).size : Int) 4000))) x4_1 0) else (none)) else (none)) = some r:=by rw [if_pos rfl] at H; exact H
      clear H
      have H:=H1
      clear H1
      by_cases c5 : 0 ≤ x4_1
      ·rw [if_pos c5] at H
       have c5b0 : decide (0 ≤ x4_1) = true:=decide_eq_true c5
       clear c5
       by_cases c6 : x4_1 < (l0.length : Int)
       ·rw [if_pos c6] at H
        have c6b0 : decide (x4_1 < (l0.length : Int)) = true:=decide_eq_true c6
        clear c6
        obtain ⟨ji7,hji7⟩ : ∃ j_ : Int,(mn (((rd_T41 l0 x4_1).f3).size : Int) 4000) = j_:=⟨_,rfl⟩
        replace H : (counterpanelaw07_Great.l1 kj1 l0 (wrap64 ((wrap64 ((wrap64 (x3_1 + (((rd_T41 l0 x4_1).f2).length : Int))) + (ji7))) + (mn (((rd_T41 l0 x4_1).f0).size : Int) 4000))) x4_1 0) = some r:=by first | (rw [hji7] at H; exact H) | (simp only [hji7] at H ⊢; exact H)
        have hji7_ : (if 4000 < (((rd_T41 l0 x4_1).f3).size : Int) then 4000 else (((rd_T41 l0 x4_1).f3).size : Int)) = ji7:=hji7
        obtain ⟨ji8,hji8⟩ : ∃ j_ : Int,(mn (((rd_T41 l0 x4_1).f0).size : Int) 4000) = j_:=⟨_,rfl⟩
        replace H : (counterpanelaw07_Great.l1 kj1 l0 (wrap64 ((wrap64 ((wrap64 (x3_1 + (((rd_T41 l0 x4_1).f2).length : Int))) + (ji7))) + (ji8))) x4_1 0) = some r:=by first | (rw [hji8] at H; exact H) | (simp only [hji8] at H ⊢; exact H)
        have hji8_ : (if 4000 < (((rd_T41 l0 x4_1).f0).size : Int) then 4000 else (((rd_T41 l0 x4_1).f0).size : Int)) = ji8:=hji8
        have H':=Aside0.mk H
        clear H
        have p182 : 0 ≤ (x4_1 : Int):=of_decide_eq_true (by first | (with_reducible assumption) | assumption)
        have q182 : x4_1 < (l0.length : Int):=of_decide_eq_true (by first | (with_reducible assumption) | assumption)
        obtain ⟨ad182,A182_2,c182_2,e182,hx182_0,hx182_1,hx182_2,hx182_3,hl182_2,hi182_2⟩:=at_T41 HR0.out x4_1 p182 q182
        cases e182
        replace hx182_0:=(HB.out.cell (World.block_lt_of_cell? w _ hx182_0)).trans hx182_0
        replace hx182_1:=(HB.out.cell (World.block_lt_of_cell? w _ hx182_1)).trans hx182_1
        replace hx182_2:=(HB.out.cell (World.block_lt_of_cell? w _ hx182_2)).trans hx182_2
        replace hx182_3:=(HB.out.cell (World.block_lt_of_cell? w _ hx182_3)).trans hx182_3
        have HR182_2:=Aside0.mk hi182_2
        have HC182_2:=Aside0.mk hl182_2
        clear hi182_2 hl182_2
        replace p182:=eq_true p182
        replace q182:=eq_true q182
        have p183 : 0 ≤ (x4_1 : Int):=of_decide_eq_true (by first | (with_reducible assumption) | assumption)
        have q183 : x4_1 < (l0.length : Int):=of_decide_eq_true (by first | (with_reducible assumption) | assumption)
        obtain ⟨ad183,A183_2,c183_2,e183,hx183_0,hx183_1,hx183_2,hx183_3,hl183_2,hi183_2⟩:=at_T41 HR0.out x4_1 p183 q183
        obtain rfl : ad182 = ad183:=(by injection e183)
        replace hx183_0:=(HB.out.cell (World.block_lt_of_cell? w _ hx183_0)).trans hx183_0
        replace hx183_1:=(HB.out.cell (World.block_lt_of_cell? w _ hx183_1)).trans hx183_1
        replace hx183_2:=(HB.out.cell (World.block_lt_of_cell? w _ hx183_2)).trans hx183_2
        replace hx183_3:=(HB.out.cell (World.block_lt_of_cell? w _ hx183_3)).trans hx183_3
        have HR183_2:=Aside0.mk hi183_2
        have HC183_2:=Aside0.mk hl183_2
        clear hi183_2 hl183_2
        replace p183:=eq_true p183
        replace q183:=eq_true q183
        have ea_:=Option.some.inj (hx182_2.symm.trans hx183_2)
        injection ea_ with ea_ en_ ec_
        subst ea_
        subst ec_
        clear en_
        have p184 : 0 ≤ (x4_1 : Int):=of_decide_eq_true (by first | (with_reducible assumption) | assumption)
        have q184 : x4_1 < (l0.length : Int):=of_decide_eq_true (by first | (with_reducible assumption) | assumption)
        obtain ⟨ad184,A184_2,c184_2,e184,hx184_0,hx184_1,hx184_2,hx184_3,hl184_2,hi184_2⟩:=at_T41 HR0.out x4_1 p184 q184
        obtain rfl : ad182 = ad184:=(by injection e184)
        replace hx184_0:=(HB.out.cell (World.block_lt_of_cell? w _ hx184_0)).trans hx184_0
        replace hx184_1:=(HB.out.cell (World.block_lt_of_cell? w _ hx184_1)).trans hx184_1
        replace hx184_2:=(HB.out.cell (World.block_lt_of_cell? w _ hx184_2)).trans hx184_2
        replace hx184_3:=(HB.out.cell (World.block_lt_of_cell? w _ hx184_3)).trans hx184_3
        have HR184_2:=Aside0.mk hi184_2
        have HC184_2:=Aside0.mk hl184_2
        clear hi184_2 hl184_2
        replace p184:=eq_true p184
        replace q184:=eq_true q184
        have ea_:=Option.some.inj (hx182_2.symm.trans hx184_2)
        injection ea_ with ea_ en_ ec_
        subst ea_
        subst ec_
        clear en_
        go_wp2
        repeat (go_quiet (fail); try go_wp2)
        go_loopg [3,5] kj1 (fun kq v3 v5 w' => ∃ (x3_3 : Int) (x5_3 : Int),v3 = .int .i64 x3_3 ∧ v5 = .int .i64 x5_3 ∧ Aside0 (counterpanelaw07_Great.l1 kq l0 x3_3 x4_1 x5_3 = some r) ∧ Aside0 (kq ≤ kj1) ∧ Aside0 (Below w.heap.size w w'))
        case atStart => exact ⟨(wrap64 ((wrap64 ((wrap64 (x3_1 + (((rd_T41 l0 x4_1).f2).length : Int))) + (ji7))) + (ji8))),(0),(by first | rfl | (simp; done) | (simp only [← hji7,← hji8] <;> (first | rfl | simp)) | (simp [*]; done)),(by first | rfl | (simp; done) | (simp [*]; done)),H',⟨Nat.le_refl _⟩,⟨by repeat (first | (with_reducible first | exact HB.out | apply below_alloc | apply pw_below_drewN | apply below_drew1) | exact HB.out)⟩⟩
        case round =>
         clear H'
         try clear c1
         try clear p1
         try clear q1
         try clear hx1
         try clear c2
         try clear p2
         try clear c3
         try clear c3b0
         try clear c4
         try clear c5
         try clear c5b0
         try clear c6
         try clear c6b0
         try clear p6
         try clear hx182_0
         try clear hx182_1
         try clear hx182_2
         try clear hx182_3
         try clear hx183_0
         try clear hx183_1
         try clear hx183_2
         try clear hx183_3
         try clear hx184_0
         try clear hx184_1
         try clear hx184_2
         try clear hx184_3
         try clear p182
         try clear p183
         try clear p184
         try clear p2
         try clear q182
         try clear q183
         try clear q184
         obtain ⟨x3_3,x5_3,rfl,rfl,HA,HK3,HB⟩:=hrel
         cases gk with
         | zero => exact absurd HA.out (by simp [counterpanelaw07_Great.l1])
         | succ k3 =>
          have H:=HA.out
          clear HA
          simp only [counterpanelaw07_Great.l1] at H
          by_cases c9 : 0 ≤ x4_1
          ·rw [if_pos c9] at H
           have c9b0 : decide (0 ≤ x4_1) = true:=decide_eq_true c9
           clear c9
           by_cases c10 : x4_1 < (l0.length : Int)
           ·rw [if_pos c10] at H
            have c10b0 : decide (x4_1 < (l0.length : Int)) = true:=decide_eq_true c10
            clear c10
            by_cases c11 : x5_3 < (((rd_T41 l0 x4_1).f2).length : Int)
            ·rw [if_pos c11] at H
             have c11b0 : decide (x5_3 < (((rd_T41 l0 x4_1).f2).length : Int)) = true:=decide_eq_true c11
             clear c11
             by_cases c12 : x3_3 < 4000
             ·rw [if_pos c12] at H
              have c12b0 : decide (x3_3 < 4000) = true:=decide_eq_true c12
              clear c12
              by_cases c13 : 0 ≤ x5_3
              ·rw [if_pos c13] at H
               have c13b0 : decide (0 ≤ x5_3) = true:=decide_eq_true c13
               clear c13
               obtain ⟨ji14,hji14⟩ : ∃ j_ : Int,(mn ((rdOf ByteArray.empty ((rd_T41 l0 x4_1).f2) x5_3).size : Int) 4000) = j_:=⟨_,rfl⟩
               replace H : (counterpanelaw07_Great.l1 k3 l0 (wrap64 (x3_3 + (ji14))) x4_1 (wrap64 (x5_3 + 1))) = some r:=by first | (rw [hji14] at H; exact H) | (simp only [hji14] at H ⊢; exact H)
               have hji14_ : (if 4000 < ((rdOf ByteArray.empty ((rd_T41 l0 x4_1).f2) x5_3).size : Int) then 4000 else ((rdOf ByteArray.empty ((rd_T41 l0 x4_1).f2) x5_3).size : Int)) = ji14:=hji14
               have H':=Aside0.mk H
               clear H
               have p185 : 0 ≤ (x4_1 : Int):=of_decide_eq_true (by first | (with_reducible assumption) | assumption)
               have q185 : x4_1 < (l0.length : Int):=of_decide_eq_true (by first | (with_reducible assumption) | assumption)
               obtain ⟨ad185,A185_2,c185_2,e185,hx185_0,hx185_1,hx185_2,hx185_3,hl185_2,hi185_2⟩:=at_T41 HR0.out x4_1 p185 q185
               obtain rfl : ad182 = ad185:=(by injection e185)
               replace hx185_0:=(HB.out.cell (World.block_lt_of_cell? w _ hx185_0)).trans hx185_0
               replace hx185_1:=(HB.out.cell (World.block_lt_of_cell? w _ hx185_1)).trans hx185_1
               replace hx185_2:=(HB.out.cell (World.block_lt_of_cell? w _ hx185_2)).trans hx185_2
               replace hx185_3:=(HB.out.cell (World.block_lt_of_cell? w _ hx185_3)).trans hx185_3
               have HR185_2:=Aside0.mk hi185_2
               have HC185_2:=Aside0.mk hl185_2
               clear hi185_2 hl185_2
               replace p185:=eq_true p185
               replace q185:=eq_true q185
               have p186 : 0 ≤ (x4_1 : Int):=of_decide_eq_true (by first | (with_reducible assumption) | assumption)
               have q186 : x4_1 < (l0.length : Int):=of_decide_eq_true (by first | (with_reducible assumption) | assumption)
               obtain ⟨ad186,A186_2,c186_2,e186,hx186_0,hx186_1,hx186_2,hx186_3,hl186_2,hi186_2⟩:=at_T41 HR0.out x4_1 p186 q186
               obtain rfl : ad182 = ad186:=(by injection e186)
               replace hx186_0:=(HB.out.cell (World.block_lt_of_cell? w _ hx186_0)).trans hx186_0
               replace hx186_1:=(HB.out.cell (World.block_lt_of_cell? w _ hx186_1)).trans hx186_1
               replace hx186_2:=(HB.out.cell (World.block_lt_of_cell? w _ hx186_2)).trans hx186_2
               replace hx186_3:=(HB.out.cell (World.block_lt_of_cell? w _ hx186_3)).trans hx186_3
               have HR186_2:=Aside0.mk hi186_2
               have HC186_2:=Aside0.mk hl186_2
               clear hi186_2 hl186_2
               replace p186:=eq_true p186
               replace q186:=eq_true q186
               have ea_:=Option.some.inj (hx185_2.symm.trans hx186_2)
               injection ea_ with ea_ en_ ec_
               subst ea_
               subst ec_
               clear en_
               have p187 : 0 ≤ (x5_3 : Int):=of_decide_eq_true (by first | (with_reducible assumption) | assumption)
               have q187 : x5_3 < (((rd_T41 l0 x4_1).f2).length : Int):=of_decide_eq_true (by first | (with_reducible assumption) | assumption)
               obtain ⟨ad187,e187,hx187_0⟩:=Kd.at_string HR186_2.out x5_3 p187 q187
               cases e187
               replace hx187_0:=(HB.out.cell (World.block_lt_of_cell? w _ hx187_0)).trans hx187_0
               replace p187:=eq_true p187
               replace q187:=eq_true q187
               go_wp2
               repeat (go_quiet (fail); try go_wp2)
               go_roundg k3
               case measure => have:=HK1.out; have:=HJ1.out; have:=HK3.out; omega
               case rel => exact ⟨(wrap64 (x3_3 + (ji14))),(wrap64 (x5_3 + 1)),(by first | rfl | (simp; done) | (simp only [← hji14] <;> (first | rfl | simp)) | (simp [*]; done)),(by first | rfl | (simp; done) | (simp [*]; done)),H',⟨by have:=HK1.out; have:=HJ1.out; have:=HK3.out; omega⟩,⟨by repeat (first | (with_reducible first | exact HB.out | apply below_alloc | apply pw_below_drewN | apply below_drew1) | exact HB.out)⟩⟩
              ·rw [if_neg c13] at H
               exact absurd H (by simp)
             ·rw [if_neg c12] at H
              have c12b0 : decide (x3_3 < 4000) = false:=decide_eq_false c12
              clear c12
              have H':=Aside0.mk H
              clear H
              have p185 : 0 ≤ (x4_1 : Int):=of_decide_eq_true (by first | (with_reducible assumption) | assumption)
              have q185 : x4_1 < (l0.length : Int):=of_decide_eq_true (by first | (with_reducible assumption) | assumption)
              obtain ⟨ad185,A185_2,c185_2,e185,hx185_0,hx185_1,hx185_2,hx185_3,hl185_2,hi185_2⟩:=at_T41 HR0.out x4_1 p185 q185
              obtain rfl : ad182 = ad185:=(by injection e185)
              replace hx185_0:=(HB.out.cell (World.block_lt_of_cell? w _ hx185_0)).trans hx185_0
              replace hx185_1:=(HB.out.cell (World.block_lt_of_cell? w _ hx185_1)).trans hx185_1
              replace hx185_2:=(HB.out.cell (World.block_lt_of_cell? w _ hx185_2)).trans hx185_2
              replace hx185_3:=(HB.out.cell (World.block_lt_of_cell? w _ hx185_3)).trans hx185_3
              have HR185_2:=Aside0.mk hi185_2
              have HC185_2:=Aside0.mk hl185_2
              clear hi185_2 hl185_2
              replace p185:=eq_true p185
              replace q185:=eq_true q185
              go_wp2
              repeat (go_quiet (fail); try go_wp2)
              go_roundg k3
              case measure => have:=HK1.out; have:=HJ1.out; have:=HK3.out; omega
              case rel => exact ⟨(x3_3),(wrap64 (x4_1 + 1)),(by first | rfl | (simp; done) | (simp [*]; done)),(by first | rfl | (simp; done) | (simp [*]; done)),H',⟨by have:=HK1.out; have:=HJ1.out; have:=HK3.out; omega⟩,⟨by repeat (first | (with_reducible first | exact HB.out | apply below_alloc | apply pw_below_drewN | apply below_drew1) | exact HB.out)⟩⟩
            ·rw [if_neg c11] at H
             have c11b0 : decide (x5_3 < (((rd_T41 l0 x4_1).f2).length : Int)) = false:=decide_eq_false c11
             clear c11
             have H':=Aside0.mk H
             clear H
             have p185 : 0 ≤ (x4_1 : Int):=of_decide_eq_true (by first | (with_reducible assumption) | assumption)
             have q185 : x4_1 < (l0.length : Int):=of_decide_eq_true (by first | (with_reducible assumption) | assumption)
             obtain ⟨ad185,A185_2,c185_2,e185,hx185_0,hx185_1,hx185_2,hx185_3,hl185_2,hi185_2⟩:=at_T41 HR0.out x4_1 p185 q185
             obtain rfl : ad182 = ad185:=(by injection e185)
             replace hx185_0:=(HB.out.cell (World.block_lt_of_cell? w _ hx185_0)).trans hx185_0
             replace hx185_1:=(HB.out.cell (World.block_lt_of_cell? w _ hx185_1)).trans hx185_1
             replace hx185_2:=(HB.out.cell (World.block_lt_of_cell? w _ hx185_2)).trans hx185_2
             replace hx185_3:=(HB.out.cell (World.block_lt_of_cell? w _ hx185_3)).trans hx185_3
             have HR185_2:=Aside0.mk hi185_2
             have HC185_2:=Aside0.mk hl185_2
             clear hi185_2 hl185_2
             replace p185:=eq_true p185
             replace q185:=eq_true q185
             go_wp2
             repeat (go_quiet (fail); try go_wp2)
             go_roundg k3
             case measure => have:=HK1.out; have:=HJ1.out; have:=HK3.out; omega
             case rel => exact ⟨(x3_3),(wrap64 (x4_1 + 1)),(by first | rfl | (simp; done) | (simp [*]; done)),(by first | rfl | (simp; done) | (simp [*]; done)),H',⟨by have:=HK1.out; have:=HJ1.out; have:=HK3.out; omega⟩,⟨by repeat (first | (with_reducible first | exact HB.out | apply below_alloc | apply pw_below_drewN | apply below_drew1) | exact HB.out)⟩⟩
           ·rw [if_neg c10] at H
            exact absurd H (by simp)
          ·rw [if_neg c9] at H
           exact absurd H (by simp)
       ·rw [if_neg c6] at H
        exact absurd H (by simp)
      ·rw [if_neg c5] at H
       exact absurd H (by simp)
     ·replace c4:=Bool.eq_false_iff.mpr c4
      subst c4
      have H1 : (some (decide (x3_1 ≥ 4000))) = some r:=by rw [if_neg (show ¬ (false = true) by decide)] at H; exact H
      clear H
      have H:=H1
      clear H1
      obtain rfl:=Option.some.inj H
      go_wp2
      repeat (go_quiet (fail); try go_wp2)
      go_ret
      exact ⟨by first | rfl | (simp [errW_none,errW_some] <;> rfl) | (simp [*,errW_none,errW_some] <;> rfl),by repeat (first | (with_reducible first | exact HB.out | apply below_alloc | apply pw_below_drewN | apply below_drew1) | exact HB.out)⟩

end Go.Proofs.YthhohbidjhcjeaaGreatDoor.Q
namespace Go.Proofs.YthhohbidjhcjeaaGreatDoor.Q
open Go.RowKit Go.Proofs.YthhohbidjhcjeaaGreatDoorW.PrintWords Go.Proofs.YthhohbidjhcjeaaGreatDoorW.PrintLast Go.Proofs.YthhohbidjhcjeaaGreatDoorW.PrintMore
attribute [local go_sem] max2_int min2_int max_two min_two max_three min_three max_four min_four   -- for this text's walks alone
set_option linter.unusedVariables false
set_option linter.unusedSimpArgs false

-- NOT PRINTED: function 24 (counterpaneref08_Apply)

def counterpaneref05_Same.l0 : Nat → List ByteArray → List ByteArray → Int → Option (Bool)
 | 0,_,_,_ => none
 | k + 1,x0,x1,x5 => if x5 < (x0.length : Int) then (if 0 ≤ x5 then (if x5 < (x1.length : Int) then (if (rdOf ByteArray.empty x0 x5).toList = (rdOf ByteArray.empty x1 x5).toList then (counterpaneref05_Same.l0 k x0 x1 (wrap64 (x5 + 1))) else (some false)) else (none)) else (none)) else (some true)
def counterpaneref05_Same.f (k : Nat) (l0 : List ByteArray) (l1 : List ByteArray) : Option (Bool):=if (l0.length : Int) = (l1.length : Int) then (counterpaneref05_Same.l0 k l0 l1 0) else (some false)
theorem counterpaneref05_Same.mono_l : ∀ k,(∀ y0 y1 y2,LeO (counterpaneref05_Same.l0 k y0 y1 y2) (counterpaneref05_Same.l0 (k + 1) y0 y1 y2))
 | 0 => fun _ _ _ r h => by simp [counterpaneref05_Same.l0] at h
 | k + 1 => by
  have ih0:=counterpaneref05_Same.mono_l k
  ·intro y0 y1 y2
   unfold counterpaneref05_Same.l0
   repeat' first
   | (with_reducible exact ih0 _ _ _)
   | (with_reducible exact LeO.refl _)
   | (with_reducible exact LeO.none _)
   | (with_reducible refine LeO.ite ?_ ?_)
   | (with_reducible refine LeO.bind ?_ (fun _ => ?_))
   | exact ih0 _ _ _
   | exact LeO.none _
   | refine LeO.ite ?_ ?_
   | refine LeO.bind ?_ (fun _ => ?_)
theorem counterpaneref05_Same.mono : ∀ a0 a1 k,LeO (counterpaneref05_Same.f k a0 a1) (counterpaneref05_Same.f (k + 1) a0 a1):=by
 intro a0 a1 k
 have ih0:=counterpaneref05_Same.mono_l k
 unfold counterpaneref05_Same.f
 repeat' first
   | (with_reducible exact ih0 _ _ _)
   | (with_reducible exact LeO.refl _)
   | (with_reducible exact LeO.none _)
   | (with_reducible refine LeO.ite ?_ ?_)
   | (with_reducible refine LeO.bind ?_ (fun _ => ?_))
   | exact ih0 _ _ _
   | exact LeO.none _
   | refine LeO.ite ?_ ?_
   | refine LeO.bind ?_ (fun _ => ?_)
set_option maxHeartbeats 8000000 in
set_option maxRecDepth 100000 in
theorem counterpaneref05_Same.calls (k : Nat) (A0 : Option Addr) (c0 : Nat) (l0 : List ByteArray) (A1 : Option Addr) (c1 : Nat) (l1 : List ByteArray) (r : Bool) (w : World) (hr0 : Kd.C Kd.string w A0 l0.length l0) (hc0 : l0.length ≤ c0) (hr1 : Kd.C Kd.string w A1 l1.length l1) (hc1 : l1.length ≤ c1) (h : counterpaneref05_Same.f k l0 l1 = some r) :
  Calls Tryz.prog 72 #[.slice A0 l0.length c0,.slice A1 l1.length c1] w fun e w' => e = .returned (.bool r) ∧ Drawn0 w w':=by
 have HR0:=Aside0.mk hr0
 have HC0:=Aside0.mk hc0
 clear hr0 hc0
 have HR1:=Aside0.mk hr1
 have HC1:=Aside0.mk hc1
 clear hr1 hc1
 have H : (if (l0.length : Int) = (l1.length : Int) then (counterpaneref05_Same.l0 k l0 l1 0) else (some false)) = some r:=h
 clear h
 by_cases c3 : (l0.length : Int) = (l1.length : Int)
 ·rw [if_pos c3] at H
  have c3b0 : ((l0.length : Int) == (l1.length : Int)) = true:=beq_iff_eq.mpr c3
  have c3b1 : ((l0.length : Int) != (l1.length : Int)) = false:=bne_eq_false_iff_eq.mpr c3
  have c3b2 : (l0.length == l1.length) = true:=by first | simpa using c3 | (simp at c3 ⊢; omega)
  clear c3
  have H':=Aside0.mk H
  clear H
  go_enter Tryz.func72,Tryz.ntmps72
  go_wp2
  repeat (go_quiet (fail); try go_wp2)
  go_loopg [5] k (fun kq v5 w' => ∃ (x5_1 : Int),v5 = .int .i64 x5_1 ∧ Aside0 (counterpaneref05_Same.l0 kq l0 l1 x5_1 = some r) ∧ Aside0 (kq ≤ k) ∧ Drawn0 w w')
  case atStart => exact ⟨(0),(by first | rfl | (simp; done) | (simp [*]; done)),H',⟨Nat.le_refl _⟩,by repeat (first | exact Drawn0.refl _ | apply Drawn0.step)⟩
  case round =>
   clear H'
   try clear c1
   try clear p2
   try clear c3
   try clear c3b0
   try clear c3b1
   try clear c3b2
   obtain ⟨x5_1,rfl,HA,HK1,⟨m1,rfl⟩⟩:=hrel
   cases gk with
   | zero => exact absurd HA.out (by simp [counterpaneref05_Same.l0])
   | succ k1 =>
    have H:=HA.out
    clear HA
    simp only [counterpaneref05_Same.l0] at H
    by_cases c4 : x5_1 < (l0.length : Int)
    ·rw [if_pos c4] at H
     have c4b0 : decide (x5_1 < (l0.length : Int)) = true:=decide_eq_true c4
     clear c4
     by_cases c5 : 0 ≤ x5_1
     ·rw [if_pos c5] at H
      have c5b0 : decide (0 ≤ x5_1) = true:=decide_eq_true c5
      clear c5
      by_cases c6 : x5_1 < (l1.length : Int)
      ·rw [if_pos c6] at H
       have c6b0 : decide (x5_1 < (l1.length : Int)) = true:=decide_eq_true c6
       clear c6
       by_cases c7 : (rdOf ByteArray.empty l0 x5_1).toList = (rdOf ByteArray.empty l1 x5_1).toList
       ·rw [if_pos c7] at H
        have c7b0 : ((rdOf ByteArray.empty l0 x5_1).toList == (rdOf ByteArray.empty l1 x5_1).toList) = true:=beq_iff_eq.mpr c7
        have c7b1 : ((rdOf ByteArray.empty l0 x5_1).toList != (rdOf ByteArray.empty l1 x5_1).toList) = false:=bne_eq_false_iff_eq.mpr c7
        clear c7
        have H':=Aside0.mk H
        clear H
        have p392 : 0 ≤ (x5_1 : Int):=of_decide_eq_true (by first | (with_reducible assumption) | assumption)
        have q392 : x5_1 < (l0.length : Int):=of_decide_eq_true (by first | (with_reducible assumption) | assumption)
        obtain ⟨ad392,e392,hx392_0⟩:=Kd.at_string HR0.out x5_1 p392 q392
        cases e392
        replace p392:=eq_true p392
        replace q392:=eq_true q392
        have p393 : 0 ≤ (x5_1 : Int):=of_decide_eq_true (by first | (with_reducible assumption) | assumption)
        have q393 : x5_1 < (l1.length : Int):=of_decide_eq_true (by first | (with_reducible assumption) | assumption)
        obtain ⟨ad393,e393,hx393_0⟩:=Kd.at_string HR1.out x5_1 p393 q393
        cases e393
        replace p393:=eq_true p393
        replace q393:=eq_true q393
        go_wp2
        repeat (go_quiet (fail); try go_wp2)
        go_roundg k1
        case measure => have:=HK1.out; omega
        case rel => exact ⟨(wrap64 (x5_1 + 1)),(by first | rfl | (simp; done) | (simp [*]; done)),H',⟨by have:=HK1.out; omega⟩,by repeat (first | exact Drawn0.refl _ | apply Drawn0.step)⟩
       ·rw [if_neg c7] at H
        have c7b0 : ((rdOf ByteArray.empty l0 x5_1).toList == (rdOf ByteArray.empty l1 x5_1).toList) = false:=beq_eq_false_iff_ne.mpr c7
        have c7b1 : ((rdOf ByteArray.empty l0 x5_1).toList != (rdOf ByteArray.empty l1 x5_1).toList) = true:=bne_iff_ne.mpr c7
        obtain rfl:=Option.some.inj H
        have p392 : 0 ≤ (x5_1 : Int):=of_decide_eq_true (by first | (with_reducible assumption) | assumption)
        have q392 : x5_1 < (l0.length : Int):=of_decide_eq_true (by first | (with_reducible assumption) | assumption)
        obtain ⟨ad392,e392,hx392_0⟩:=Kd.at_string HR0.out x5_1 p392 q392
        cases e392
        replace p392:=eq_true p392
        replace q392:=eq_true q392
        have p393 : 0 ≤ (x5_1 : Int):=of_decide_eq_true (by first | (with_reducible assumption) | assumption)
        have q393 : x5_1 < (l1.length : Int):=of_decide_eq_true (by first | (with_reducible assumption) | assumption)
        obtain ⟨ad393,e393,hx393_0⟩:=Kd.at_string HR1.out x5_1 p393 q393
        cases e393
        replace p393:=eq_true p393
        replace q393:=eq_true q393
        go_wp2
        repeat (go_quiet (fail); try go_wp2)
        go_ret
        exact ⟨by first | rfl | (simp; done) | (simp [*]; done),by repeat (first | exact Drawn0.refl _ | apply Drawn0.step)⟩
      ·rw [if_neg c6] at H
       exact absurd H (by simp)
     ·rw [if_neg c5] at H
      exact absurd H (by simp)
    ·rw [if_neg c4] at H
     have c4b0 : decide (x5_1 < (l0.length : Int)) = false:=decide_eq_false c4
     clear c4
     obtain rfl:=Option.some.inj H
     go_wp2
     repeat (go_quiet (fail); try go_wp2)
     go_ret
     exact ⟨by first | rfl | (simp; done) | (simp [*]; done),by repeat (first | exact Drawn0.refl _ | apply Drawn0.step)⟩
 ·rw [if_neg c3] at H
  have c3b0 : ((l0.length : Int) == (l1.length : Int)) = false:=beq_eq_false_iff_ne.mpr c3
  have c3b1 : ((l0.length : Int) != (l1.length : Int)) = true:=bne_iff_ne.mpr c3
  have c3b2 : (l0.length == l1.length) = false:=by first | simpa using c3 | (simp at c3 ⊢; omega)
  obtain rfl:=Option.some.inj H
  go_enter Tryz.func72,Tryz.ntmps72
  go_wp2
  repeat (go_quiet (fail); try go_wp2)
  go_ret
  exact ⟨by first | rfl | (simp; done) | (simp [*]; done),by repeat (first | exact Drawn0.refl _ | apply Drawn0.step)⟩

end Go.Proofs.YthhohbidjhcjeaaGreatDoor.Q
namespace Go.Proofs.YthhohbidjhcjeaaGreatDoor.Pl
open Go.RowKit Go.Proofs.YthhohbidjhcjeaaGreatDoorW.PrintWords Go.Proofs.YthhohbidjhcjeaaGreatDoorW.PrintMore Go.Proofs.YthhohbidjhcjeaaGreatDoor.Q
theorem rd_T41_get (xs : List S41) {i : Nat} (h : i < xs.length) : rd_T41 xs (i : Int) = xs[i]:=by
 simp [rd_T41,List.getD_eq_getElem?_getD,h]
structure Small (x : S41) : Prop where
 p : x.f0.size < 4000
 b : x.f3.size < 4000
 n : x.f2.length < 4000
 s : ∀ t ∈ x.f2,t.size < 4000
theorem mn_lt {a : Int} (h : mn a 4000 < 4000) : a < 4000:=by
 unfold mn at h
 split at h <;> omega
theorem great7_l1 (l : List S41) (i : Nat) (hi : i < l.length) (hn : l.length ≤ 140737488355328) (hx : l[i].f2.length ≤ 140737488355328)
  (hnext : ∀ n : Int,0 ≤ n → n ≤ 1000000000000000 → ∃ r,Ev (fun k => counterpanelaw07_Great.l0 k l n ((i + 1 : Nat) : Int)) r ∧ (r = false → n < 4000 ∧ ∀ x ∈ l.drop (i + 1),Small x)) :
  ∀ (d j : Nat) (n : Int),j + d = l[i].f2.length → 0 ≤ n → n ≤ 1000000000000000 → ∃ r,Ev (fun k => counterpanelaw07_Great.l1 k l n (i : Int) (j : Int)) r ∧ (r = false → n < 4000 ∧ (∀ t ∈ l[i].f2.drop j,t.size < 4000) ∧ ∀ x ∈ l.drop (i + 1),Small x):=by
 intro d
 induction d with
 | zero =>
  intro j n hj h0 hm
  obtain ⟨r,hr,h⟩:=hnext n h0 hm
  refine ⟨r,Ev.step (f:=fun k => counterpanelaw07_Great.l0 k l n ((i + 1 : Nat) : Int)) (fun k => ?_) hr,fun hf => ⟨(h hf).1,?_,(h hf).2⟩⟩
  ·simp only [counterpanelaw07_Great.l1]
   rw [if_pos (by omega),if_pos (by omega),rd_T41_get _ hi,if_neg (by omega),wrap_1 hi hn]
  ·rw [List.drop_of_length_le (by omega)]
   intro t ht
   cases ht
 | succ d ih =>
  intro j n hj h0 hm
  have hjl : j < l[i].f2.length:=by omega
  by_cases hlt : n < 4000
  ·have hb:=mn_le (l[i].f2[j].size : Int) 4000
   have hb0:=mn_nn (a:=(l[i].f2[j].size : Int)) (b:=4000) (by omega) (by omega)
   obtain ⟨r,hr,h⟩:=ih (j + 1) (n + mn (l[i].f2[j].size : Int) 4000) (by omega) (by omega) (by omega)
   refine ⟨r,Ev.step (f:=fun k => counterpanelaw07_Great.l1 k l (n + mn (l[i].f2[j].size : Int) 4000) (i : Int) ((j + 1 : Nat) : Int)) (fun k => ?_) hr,fun hf => ⟨hlt,?_,(h hf).2.2⟩⟩
   ·simp only [counterpanelaw07_Great.l1]
    rw [if_pos (by omega),if_pos (by omega),rd_T41_get _ hi,if_pos (by omega),if_pos hlt,if_pos (by omega),rdOf_get _ _ hjl,wrap_1 hjl hx,wrap_id (by omega) (by omega)]
   ·rw [List.drop_eq_getElem_cons hjl]
    intro t ht
    rcases List.mem_cons.1 ht with ht | ht
    ·subst ht
     have:=(h hf).1
     have:=mn_lt (a:=(l[i].f2[j].size : Int)) (by omega)
     omega
    ·exact (h hf).2.1 t ht
  ·obtain ⟨r,hr,h⟩:=hnext n h0 hm
   refine ⟨r,Ev.step (f:=fun k => counterpanelaw07_Great.l0 k l n ((i + 1 : Nat) : Int)) (fun k => ?_) hr,fun hf => absurd (h hf).1 hlt⟩
   simp only [counterpanelaw07_Great.l1]
   rw [if_pos (by omega),if_pos (by omega),rd_T41_get _ hi,if_pos (by omega),if_neg hlt,wrap_1 hi hn]
theorem great7_l0 (l : List S41) (hn : l.length ≤ 140737488355328) (hx : ∀ x ∈ l,x.f2.length ≤ 140737488355328) :
  ∀ (d i : Nat) (n : Int),i + d = l.length → 0 ≤ n → n ≤ 1000000000000000 → ∃ r,Ev (fun k => counterpanelaw07_Great.l0 k l n (i : Int)) r ∧ (r = false → n < 4000 ∧ ∀ x ∈ l.drop i,Small x):=by
 have hfin : ∀ (i n : Int),∃ r,Ev (fun k => counterpanelaw07_Great.j1 k l n i false) r ∧ (r = false → n < 4000):=fun i n =>
  ⟨decide (n ≥ 4000),Ev.step (f:=fun _ => some (decide (n ≥ 4000))) (fun k => by simp only [counterpanelaw07_Great.j1]; rw [if_neg (by decide)]) (Ev.now _),fun h => by simpa using h⟩
 intro d
 induction d with
 | zero =>
  intro i n hi h0 hm
  obtain ⟨r,hr,h⟩:=hfin i n
  refine ⟨r,Ev.step (f:=fun k => counterpanelaw07_Great.j1 k l n (i : Int) false) (fun k => ?_) hr,fun hf => ⟨h hf,?_⟩⟩
  ·simp only [counterpanelaw07_Great.l0]
   rw [if_neg (by omega)]
  ·rw [List.drop_of_length_le (by omega)]
   intro t ht
   cases ht
 | succ d ih =>
  intro i n hi h0 hm
  have hil : i < l.length:=by omega
  have hxl:=hx _ (List.getElem_mem hil)
  by_cases hlt : n < 4000
  ·have a1:=mn_le (l[i].f3.size : Int) 4000
   have a2:=mn_nn (a:=(l[i].f3.size : Int)) (b:=4000) (by omega) (by omega)
   have a3:=mn_le (l[i].f0.size : Int) 4000
   have a4:=mn_nn (a:=(l[i].f0.size : Int)) (b:=4000) (by omega) (by omega)
   obtain ⟨r,hr,h⟩:=great7_l1 l i hil hn hxl (fun m q0 q1 => ih (i + 1) m (by omega) q0 q1) l[i].f2.length 0 (n + (l[i].f2.length : Int) + mn (l[i].f3.size : Int) 4000 + mn (l[i].f0.size : Int) 4000) (by omega) (by omega) (by omega)
   refine ⟨r,Ev.step (f:=fun k => counterpanelaw07_Great.j1 k l n (i : Int) true) (fun k => ?_) (Ev.step (f:=fun k => counterpanelaw07_Great.l1 k l (n + (l[i].f2.length : Int) + mn (l[i].f3.size : Int) 4000 + mn (l[i].f0.size : Int) 4000) (i : Int) ((0 : Nat) : Int)) (fun k => ?_) hr),fun hf => ⟨hlt,?_⟩⟩
   ·simp only [counterpanelaw07_Great.l0]
    rw [if_pos (by omega),decide_eq_true hlt]
   ·simp only [counterpanelaw07_Great.j1]
    rw [if_pos trivial,if_pos (by omega),if_pos (by omega),rd_T41_get _ hil,wrap_id (i:=n + (l[i].f2.length : Int)) (by omega) (by omega),wrap_id (i:=n + (l[i].f2.length : Int) + mn (l[i].f3.size : Int) 4000) (by omega) (by omega),wrap_id (by omega) (by omega)]
    rfl
   ·have hq:=(h hf).1
    rw [List.drop_eq_getElem_cons hil]
    intro x hxm
    rcases List.mem_cons.1 hxm with hxe | hxm
    ·subst hxe
     have b1:=mn_lt (a:=(l[i].f0.size : Int)) (by omega)
     have b2:=mn_lt (a:=(l[i].f3.size : Int)) (by omega)
     exact ⟨by omega,by omega,by omega,by simpa using (h hf).2.1⟩
    ·exact (h hf).2.2 x hxm
  ·obtain ⟨r,hr,h⟩:=hfin i n
   refine ⟨r,Ev.step (f:=fun k => counterpanelaw07_Great.j1 k l n (i : Int) false) (fun k => ?_) hr,fun hf => absurd (h hf) hlt⟩
   simp only [counterpanelaw07_Great.l0]
   rw [if_pos (by omega),decide_eq_false hlt]
theorem great7 (l : List S41) (hn : l.length ≤ 140737488355328) (hx : ∀ x ∈ l,x.f2.length ≤ 140737488355328) :
  ∃ r,Ev (fun k => counterpanelaw07_Great.f k l) r ∧ (r = false → l.length < 800 ∧ ∀ x ∈ l,Small x):=by
 obtain ⟨r,hr,h⟩:=great7_l0 l hn hx l.length 0 (5 * (l.length : Int)) (by omega) (by omega) (by omega)
 refine ⟨r,Ev.congr (fun k => ?_) hr,fun hf => ⟨by have:=(h hf).1; omega,by simpa using (h hf).2⟩⟩
 unfold counterpanelaw07_Great.f
 rw [wrap_id (by omega) (by omega)]
 rfl
structure SmallP (p : S25) : Prop where
 f1 : p.f1.size < 4000
 f2 : p.f2.size < 4000
 f3 : p.f3.size < 4000
 n : p.f5.length + p.f6.length < 4000
 s5 : ∀ t ∈ p.f5,t.size < 4000
 s6 : ∀ t ∈ p.f6,t.size < 4000
theorem great8_l1 (x : S25) (hx : Ok24 x) : ∀ (d i : Nat) (n : Int),i + d = x.f6.length → 0 ≤ n → n ≤ 1000000000000000000 → ∃ r,Ev (fun k => counterpanelaw08_Great.l1 k n (i : Int) x.f0 x.f1 x.f2 x.f3 x.f4 x.f5 x.f6) r ∧ (r = false → n < 4000 ∧ ∀ t ∈ x.f6.drop i,t.size < 4000):=by
 intro d
 induction d with
 | zero =>
  intro i n hi h0 hm
  refine ⟨decide (n ≥ 4000),Ev.step (f:=fun _ => some (decide (n ≥ 4000))) (fun k => ?_) (Ev.now _),?_⟩
  ·simp only [counterpanelaw08_Great.l1]
   rw [if_neg (by omega)]
  ·intro h
   refine ⟨by simpa using h,?_⟩
   rw [List.drop_of_length_le (by omega)]
   intro t ht
   cases ht
 | succ d ih =>
  intro i n hi h0 hm
  have h1 : i < x.f6.length:=by omega
  by_cases hn : n < 4000
  ·have hb:=mn_le (x.f6[i].size : Int) 4000
   have hb0:=mn_nn (a:=(x.f6[i].size : Int)) (b:=4000) (by omega) (by omega)
   obtain ⟨r,hr,hlt⟩:=ih (i + 1) (n + mn (x.f6[i].size : Int) 4000) (by omega) (by omega) (by omega)
   refine ⟨r,Ev.step (f:=fun k => counterpanelaw08_Great.l1 k (n + mn (x.f6[i].size : Int) 4000) ((i + 1 : Nat) : Int) x.f0 x.f1 x.f2 x.f3 x.f4 x.f5 x.f6) (fun k => ?_) hr,fun hf => ⟨hn,?_⟩⟩
   ·simp only [counterpanelaw08_Great.l1]
    rw [if_pos (by omega),if_pos hn,if_pos (by omega),rdOf_get _ _ h1,wrap_1 h1 hx.2,wrap_id (by omega) (by omega)]
   ·rw [List.drop_eq_getElem_cons h1]
    intro t ht
    rcases List.mem_cons.1 ht with ht | ht
    ·subst ht
     have:=(hlt hf).1
     have:=mn_lt (a:=(x.f6[i].size : Int)) (by omega)
     omega
    ·exact (hlt hf).2 t ht
  ·refine ⟨decide (n ≥ 4000),Ev.step (f:=fun _ => some (decide (n ≥ 4000))) (fun k => ?_) (Ev.now _),?_⟩
   ·simp only [counterpanelaw08_Great.l1]
    rw [if_pos (by omega),if_neg hn]
   ·intro h
    exact absurd (by simpa using h) hn
theorem great8_j1 (x : S25) (hx : Ok24 x) (n : Int) (h0 : 0 ≤ n) (hm : n ≤ 1000000000000000000) : ∃ r,Ev (fun k => counterpanelaw08_Great.j1 k n x.f0 x.f1 x.f2 x.f3 x.f4 x.f5 x.f6) r ∧ (r = false → n < 4000 ∧ ∀ t ∈ x.f6,t.size < 4000):=by
 obtain ⟨r,hr,h⟩:=great8_l1 x hx x.f6.length 0 n (by omega) h0 hm
 exact ⟨r,Ev.step (f:=fun k => counterpanelaw08_Great.l1 k n ((0 : Nat) : Int) x.f0 x.f1 x.f2 x.f3 x.f4 x.f5 x.f6) (fun k => by simp only [counterpanelaw08_Great.j1]; rfl) hr,by simpa using h⟩
theorem great8_l0 (x : S25) (hx : Ok24 x) : ∀ (d i : Nat) (n : Int),i + d = x.f5.length → 0 ≤ n → n ≤ 1000000000000000000 → ∃ r,Ev (fun k => counterpanelaw08_Great.l0 k n (i : Int) x.f0 x.f1 x.f2 x.f3 x.f4 x.f5 x.f6) r ∧ (r = false → n < 4000 ∧ (∀ t ∈ x.f5.drop i,t.size < 4000) ∧ ∀ t ∈ x.f6,t.size < 4000):=by
 intro d
 induction d with
 | zero =>
  intro i n hi h0 hm
  obtain ⟨r,hr,h⟩:=great8_j1 x hx n h0 hm
  refine ⟨r,Ev.step (f:=fun k => counterpanelaw08_Great.j1 k n x.f0 x.f1 x.f2 x.f3 x.f4 x.f5 x.f6) (fun k => ?_) hr,fun hf => ⟨(h hf).1,?_,(h hf).2⟩⟩
  ·simp only [counterpanelaw08_Great.l0]
   rw [if_neg (by omega)]
  ·rw [List.drop_of_length_le (by omega)]
   intro t ht
   cases ht
 | succ d ih =>
  intro i n hi h0 hm
  have h1 : i < x.f5.length:=by omega
  by_cases hn : n < 4000
  ·have hb:=mn_le (x.f5[i].size : Int) 4000
   have hb0:=mn_nn (a:=(x.f5[i].size : Int)) (b:=4000) (by omega) (by omega)
   obtain ⟨r,hr,hlt⟩:=ih (i + 1) (n + mn (x.f5[i].size : Int) 4000) (by omega) (by omega) (by omega)
   refine ⟨r,Ev.step (f:=fun k => counterpanelaw08_Great.l0 k (n + mn (x.f5[i].size : Int) 4000) ((i + 1 : Nat) : Int) x.f0 x.f1 x.f2 x.f3 x.f4 x.f5 x.f6) (fun k => ?_) hr,fun hf => ⟨hn,?_,(hlt hf).2.2⟩⟩
   ·simp only [counterpanelaw08_Great.l0]
    rw [if_pos (by omega),if_pos hn,if_pos (by omega),rdOf_get _ _ h1,wrap_1 h1 hx.1,wrap_id (by omega) (by omega)]
   ·rw [List.drop_eq_getElem_cons h1]
    intro t ht
    rcases List.mem_cons.1 ht with ht | ht
    ·subst ht
     have:=(hlt hf).1
     have:=mn_lt (a:=(x.f5[i].size : Int)) (by omega)
     omega
    ·exact (hlt hf).2.1 t ht
  ·obtain ⟨r,hr,h⟩:=great8_j1 x hx n h0 hm
   refine ⟨r,Ev.step (f:=fun k => counterpanelaw08_Great.j1 k n x.f0 x.f1 x.f2 x.f3 x.f4 x.f5 x.f6) (fun k => ?_) hr,fun hf => absurd (h hf).1 hn⟩
   simp only [counterpanelaw08_Great.l0]
   rw [if_pos (by omega),if_neg hn]
theorem great8 (x : S25) (hx : Ok24 x) : ∃ r,Ev (fun k => counterpanelaw08_Great.f k x.f0 x.f1 x.f2 x.f3 x.f4 x.f5 x.f6) r ∧ (r = false → SmallP x):=by
 have b1:=mn_le (x.f1.size : Int) 4000
 have b2:=mn_le (x.f2.size : Int) 4000
 have b3:=mn_le (x.f3.size : Int) 4000
 have c1:=mn_nn (a:=(x.f1.size : Int)) (b:=4000) (by omega) (by omega)
 have c2:=mn_nn (a:=(x.f2.size : Int)) (b:=4000) (by omega) (by omega)
 have c3:=mn_nn (a:=(x.f3.size : Int)) (b:=4000) (by omega) (by omega)
 obtain ⟨h5,h6⟩:=id hx
 obtain ⟨r,hr,h⟩:=great8_l0 x hx x.f5.length 0 (mn (x.f1.size : Int) 4000 + mn (x.f2.size : Int) 4000 + mn (x.f3.size : Int) 4000 + (x.f5.length : Int) + (x.f6.length : Int)) (by omega) (by omega) (by omega)
 refine ⟨r,Ev.congr (fun k => ?_) hr,fun hf => ?_⟩
 ·unfold counterpanelaw08_Great.f
  rw [wrap_id (i:=mn (x.f1.size : Int) 4000 + mn (x.f2.size : Int) 4000 + mn (x.f3.size : Int) 4000 + (x.f5.length : Int)) (by omega) (by omega),wrap_id (by omega) (by omega)]
  rfl
 ·obtain ⟨q1,q2,q3⟩:=h hf
  have m1:=mn_lt (a:=(x.f1.size : Int)) (by omega)
  have m2:=mn_lt (a:=(x.f2.size : Int)) (by omega)
  have m3:=mn_lt (a:=(x.f3.size : Int)) (by omega)
  exact ⟨by omega,by omega,by omega,by omega,by simpa using q2,q3⟩
end Go.Proofs.YthhohbidjhcjeaaGreatDoor.Pl
namespace Go.Proofs.YthhohbidjhcjeaaGreatDoor.RB
open Go Go.RowKit
variable {F : Fence} {n : Nat} {P : Program}
def SeqG {α : Type} (F : Fence) (n : Nat) (P : Program) (g : Nat) (lb : Array Value) (encs : α → Array Value) (Kp : World → World → Prop) (Z : Nat → Prop) (S Sp : List α → Prop) (G : List α → α → Prop) (w : World) : Prop :=
 ∀ (l : Nat) (J Jx : List α → World → Prop) (W : World),Below w.heap.size w W → AbidesZ Z W.heap.size J → AbidesZ Z W.heap.size Jx →
  (∀ pre x W1,J pre W1 → G pre x → YieldAt F (n - 1) P l (encs x) W1 fun e W' =>
   (e = .returned (.bool true) ∧ J (pre ++ [x]) W' ∧ Kp W1 W') ∨ (e = .returned (.bool false) ∧ Jx (pre ++ [x]) W')) →
  J [] W →
  CallsIn F n P g (#[.func (.yield l) #[] #[]] ++ lb) W fun e W' => (∃ v,e = .returned v) ∧ ((∃ xs,S xs ∧ J xs W') ∨ (∃ pre,Sp pre ∧ Jx pre W'))

theorem wpIn_rangeFunc_given {α : Type} {g : Operand} {ps : Array Tmp} {assign body : Code} {Q : Exit → Act → World → Prop} {a : Act} {w : World}
  (hro : F.round = none) (h1 : 1 ≤ n) {gf : Nat} {lb : Array Value} (hg : a.eval g = .func (.func gf) #[] lb) (hFg : F.fn gf) (eg : ∀ args w,(callFunc gf args).run P w = .ok (.enter gf args) w)
  {encs : α → Array Value} {Kp : World → World → Prop} {Z : Nat → Prop} {S Sp : List α → Prop} {G : List α → α → Prop} {w0 : World} (hseq : SeqG F (n - 1) P gf lb encs Kp Z S Sp G w0) (hZ : ∀ r,Z r → r < w.heap.size)
  (hKt : ∀ {A B C : World},Kp A B → Kp B C → Kp A C) (hKb : ∀ (W : World) (l : Nat) (o o' : Obj),w.heap.size ≤ l → W.heap[l]? = some o → o.isCells = false → o.isWalk = false → Kp W (W.putObj l o')) (hb0 : Below w0.heap.size w0 w) (hps : ∀ x,(encs x).size = ps.size)
  (I : List α → World → Prop) (Ix : Code → List α → World → Prop) (hI : OwnZ Z w.heap.size I) (hIx : ∀ c,OwnZ Z w.heap.size (Ix c)) (h0 : I [] w) (a₁ : α → Act)
  (hassign : ∀ (l : Nat) (x : α) (W : World) (K : Act → World → Prop),K (a₁ x) W →
   assign.wpIn (F.inRound l) (n - 1 - 1) P (Exit.then K (fun _ _ _ => False)) { tmps:=(ps.zip (encs x)).foldl (fun t (p,v) => t.setIfInBounds p v) a.tmps,defers:=[] } W)
  (hbody : ∀ (l : Nat) (pre : List α) (x : α) (W : World),I pre W → G pre x → body.wpIn (F.inRound l) (n - 1 - 1) P (postZ w.heap.size Kp I Ix (pre ++ [x]) W) (a₁ x) W)
  (hdone : ∀ (D : Nat) (xs : List α) (W : World),w.heap.size ≤ D → S xs → I xs W → W.heap[D]? = some (.deferred (some [])) → Q .normal { a with defers:={ target:=.collected D,args:=#[] } :: a.defers } W)
  (hstop : ∀ (D : Nat) (pre : List α) (W : World),w.heap.size ≤ D → Sp pre → Ix .ret pre W → W.heap[D]? = some (.deferred (some [])) → (Code.ret).wpIn F n P Q { a with defers:={ target:=.collected D,args:=#[] } :: a.defers } W) :
  (Code.rangeFunc g ps assign body).wpIn F n P Q a w:=by
 refine wpIn_rangeFunc fun fn hfn => ?_
 rw [hro]
  -- the two blocks of book-keeping: the deferred calls, the loop's record
 obtain ⟨rec,hrec⟩ : ∃ rec : LoopState → Option Code → Loop,rec = fun st pe => { state:=st,pending:=pe,fn,tmps:=a.tmps,params:=ps,assign,body,defers:=w.heap.size }:=⟨_,rfl⟩
 obtain ⟨V,hV⟩ : ∃ V,(w.alloc (.deferred (some []))).alloc (.loop (rec .ready none)) = V:=⟨_,rfl⟩
 have vL : V.heap[w.heap.size + 1]? = some (.loop (rec .ready none)):=by
  have h:=World.alloc_heap_new (w.alloc (.deferred (some []))) (.loop (rec .ready none))
  rw [World.size_alloc,hV] at h
  exact h
 have vD : V.heap[w.heap.size]? = some (.deferred (some [])):=by
  rw [← hV]
  exact (Below.heap_alloc _ _ _ (by simp)).trans (World.alloc_heap_new w _)
 have vS : V.heap.size = w.heap.size + 2:=by rw [← hV]; simp
 have vI : I [] V:=by rw [← hV]; exact hI.from.alloc _ (hI.from.alloc _ h0)
 have vB : Below w0.heap.size w0 V:=by
  rw [← hV]
  exact hb0.trans ((((Below.refl _ w).alloc (Nat.le_refl _) _).alloc (by simp) _).mono hb0.size)
  -- an object that holds no cells, or the two blocks, are no matter of the iterator's
 have keep : ∀ {X Y : World} {row : Option Nat} {k : Nat} {o : Obj},X.grownBy Y row → (∀ r,row = some r → (V.heap.size ≤ r ∧ ∃ o : Obj,X.heap[r]? = some o ∧ o.isWalk = true) ∨ Z r) → w.heap.size ≤ k → k < w.heap.size + 2 → X.heap[k]? = some o → Y.heap[k]? = some o:=by
  intro X Y row k o hg' hr h1 h2 hk
  refine (hg'.block k (Array.getElem?_eq_some_iff.1 hk).1 (fun e => ?_)).trans hk
  rcases hr k e.symm with ⟨h3,_⟩ | h3
  ·omega
  ·have:=hZ k h3
   omega
 have less : ∀ {X : World} {row : Option Nat},(∀ r,row = some r → (V.heap.size ≤ r ∧ ∃ o : Obj,X.heap[r]? = some o ∧ o.isWalk = true) ∨ Z r) → ∀ r,row = some r → (w.heap.size ≤ r ∧ ∃ o : Obj,X.heap[r]? = some o ∧ o.isCells = false) ∨ Z r:=by
  intro X row hr r e
  rcases hr r e with ⟨h3,o,ho,hw⟩ | h3
  ·exact .inl ⟨by omega,o,ho,Obj.not_cells_of_walk hw⟩
  ·exact .inr h3
 refine ⟨w.heap.size + 1,[{ target:=.collected w.heap.size,args:=#[] }],V,{ target:=.fn (.func gf) lb,args:=#[.func (.yield (w.heap.size + 1)) #[] #[]] },V,gf,
  #[.func (.yield (w.heap.size + 1)) #[] #[]] ++ lb,V,?_,?_,?_,?_,fun _ => h1,?_⟩
 ·rw [← hV,hrec]; exact run_enterLoop_outer _ _ _ _ _
 ·simp only [resolve,hg]; simp [go_sem]
 ·intro f' hf'; simp [Target.leads] at hf'; subst hf'; exact hFg
 ·simp [invoke,go_sem,eg]
 refine (hseq (w.heap.size + 1)
  (fun pre W => I pre W ∧ W.heap[w.heap.size + 1]? = some (.loop (rec .ready none)) ∧ W.heap[w.heap.size]? = some (.deferred (some [])))
  (fun pre W => Ix .ret pre W ∧ W.heap[w.heap.size + 1]? = some (.loop (rec .done (some .ret))) ∧ W.heap[w.heap.size]? = some (.deferred (some [])))
  V vB
  (fun s X Y row hs hg' hr => ⟨hI s X Y row hs.1 hg' (less hr),keep hg' hr (by omega) (by omega) hs.2.1,keep hg' hr (by omega) (by omega) hs.2.2⟩)
  (fun s X Y row hs hg' hr => ⟨hIx .ret s X Y row hs.1 hg' (less hr),keep hg' hr (by omega) (by omega) hs.2.1,keep hg' hr (by omega) (by omega) hs.2.2⟩)
  ?round ⟨vI,vL,vD⟩).mono ?behind
 case round =>
  rintro pre x W ⟨hi,hl,hk⟩ hlen
  have hlt : w.heap.size + 1 < W.heap.size:=(Array.getElem?_eq_some_iff.1 hl).1
  have hy:=run_yield (P:=P) (args:=encs x) hl (by rw [hrec]; exact hps x)
  rw [hrec] at hy
  refine ⟨fn,_,assign,body,hy,roundIn_of_wpIn hfn (hassign _ x W _ ?_)⟩
  refine ⟨_,run_beginRound hl (by rw [hrec]),?_⟩
  obtain ⟨X,hX⟩ : ∃ X,W.putObj (w.heap.size + 1) (.loop { rec .ready none with state:=.busy }) = X:=⟨_,rfl⟩
  have xL : X.heap[w.heap.size + 1]? = some (.loop { rec .ready none with state:=.busy }):=by rw [← hX]; exact World.putObj_heap_same hlt
  have xD : X.heap[w.heap.size]? = some (.deferred (some [])):=by rw [← hX]; exact (World.putObj_heap_other (by omega)).trans hk
  have xK : Kp W X:=by rw [← hX]; exact hKb _ _ _ _ (by omega) hl rfl rfl
  have xI : I pre X:=by rw [← hX]; exact hI.from.putObj _ hi (by omega) hl rfl
  rw [hX]
  refine wpIn_mono (hbody _ pre x X xI hlen) ?_
    -- the round's end: the record is written back
  have fin : ∀ (jump : Option Code) (Y : World),KeepsFrom w.heap.size X Y →
    (Instr.endRound (w.heap.size + 1) jump).run P Y = .ok (.bool jump.isNone) (Y.putObj (w.heap.size + 1) (.loop (rec (if jump.isNone then .ready else .done) jump))) ∧
    Y.heap[w.heap.size + 1]? = some (.loop { rec .ready none with state:=.busy }) ∧
    (Y.putObj (w.heap.size + 1) (.loop (rec (if jump.isNone then .ready else .done) jump))).heap[w.heap.size + 1]? = some (.loop (rec (if jump.isNone then .ready else .done) jump)) ∧
    (Y.putObj (w.heap.size + 1) (.loop (rec (if jump.isNone then .ready else .done) jump))).heap[w.heap.size]? = some (.deferred (some [])):=by
   intro jump Y hk3
   have yL:=hk3.same _ _ (by omega) xL rfl
   have e:=run_endRound (P:=P) jump yL
   rw [hrec] at e ⊢
   exact ⟨e,by rw [hrec] at yL; exact yL,World.putObj_heap_same (Array.getElem?_eq_some_iff.1 yL).1,(World.putObj_heap_other (by omega)).trans (hk3.same _ _ (Nat.le_refl _) xD rfl)⟩
  intro e a3 Y hp
  cases e with
  | normal =>
   obtain ⟨q1,q2,q3⟩:=hp
   obtain ⟨r1,r2,r3,r4⟩:=fin none Y q1
   exact ⟨_,_,r1,.inl ⟨rfl,⟨hI.from.putObj _ q3 (by omega) r2 rfl,r3,r4⟩,hKt xK (hKt q2 (hKb _ _ _ _ (by omega) r2 rfl rfl))⟩⟩
  | ret =>
   obtain ⟨q1,q3⟩:=hp
   obtain ⟨r1,r2,r3,r4⟩:=fin (some .ret) Y q1
   exact ⟨_,_,r1,.inr ⟨rfl,(hIx .ret).from.putObj _ q3 (by omega) r2 rfl,r3,r4⟩⟩
  | exit id => exact hp.elim
  | goto t => exact hp.elim
  | panic ch => exact hp.elim
  | outgrown => exact hp.elim
 case behind =>
  rintro e Y ⟨⟨v,rfl⟩,(⟨xs,hS,hi,hl,hk⟩ | ⟨pre,hSp,hi,hl,hk⟩)⟩
  ·have e:=run_endLoop (P:=P) hl (by rw [hrec]; simp)
   rw [hrec] at e
   exact ⟨none,_,e,hdone _ xs _ (Nat.le_refl _) hS (hI.from.putObj _ hi (by omega) hl rfl) ((World.putObj_heap_other (by omega)).trans hk)⟩
  ·have e:=run_endLoop (P:=P) hl (by rw [hrec]; simp)
   rw [hrec] at e
   exact ⟨some .ret,_,e,hstop _ pre _ (Nat.le_refl _) hSp ((hIx .ret).from.putObj _ hi (by omega) hl rfl) ((World.putObj_heap_other (by omega)).trans hk)⟩
end Go.Proofs.YthhohbidjhcjeaaGreatDoor.RB
