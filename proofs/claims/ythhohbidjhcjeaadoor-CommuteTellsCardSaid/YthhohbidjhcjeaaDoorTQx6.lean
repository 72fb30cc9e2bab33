/- Printed by a program of this place out of the translation: what the functions compute, and their contracts. -/
import Derived.Test.YthhohbidjhcjeaaDoorTQx0
import Derived.Test.YthhohbidjhcjeaaDoorTQx2
namespace Go.Proofs.YthhohbidjhcjeaaDoor.Q
open Go.RowKit Go.Proofs.YthhohbidjhcjeaaDoorW.PrintWords Go.Proofs.YthhohbidjhcjeaaDoorW.PrintLast Go.Proofs.YthhohbidjhcjeaaDoorW.PrintMore
attribute [local go_sem] max2_int min2_int max_two min_two max_three min_three max_four min_four   -- for this text's walks alone
set_option linter.unusedVariables false
set_option linter.unusedSimpArgs false

/-! ### commute_apart: function 106 -/
mutual
def commute_apart.l0 : Nat → List ByteArray → List ByteArray → Int → Int → Option (Bool)
 | 0,_,_,_,_ => none
 | k + 1,x1,x9,x10,x11 => if x11 < x10 then (if 0 ≤ x11 then (if x11 < (x9.length : Int) then (commute_apart.l1 k x1 (rdOf ByteArray.empty x9 x11) x9 x10 x11 x1 (x1.length : Int) 0) else (none)) else (none)) else (some true)
def commute_apart.l1 : Nat → List ByteArray → ByteArray → List ByteArray → Int → Int → List ByteArray → Int → Int → Option (Bool)
 | 0,_,_,_,_,_,_,_,_ => none
 | k + 1,x1,x6,x9,x10,x11,x15,x16,x17 => if x17 < x16 then (if 0 ≤ x17 then (if x17 < (x15.length : Int) then ((path_Apart.f x6 (rdOf ByteArray.empty x15 x17)).bind fun t172 => (if t172 = true then (commute_apart.l1 k x1 x6 x9 x10 x11 x15 x16 (wrap64 (x17 + 1))) else (some false))) else (none)) else (none)) else (commute_apart.l0 k x1 x9 x10 (wrap64 (x11 + 1)))
end
def commute_apart.f (k : Nat) (l0 : List ByteArray) (l1 : List ByteArray) : Option (Bool):=commute_apart.l0 k l1 l0 (l0.length : Int) 0
theorem commute_apart.mono_l : ∀ k,(∀ y0 y1 y2 y3,LeO (commute_apart.l0 k y0 y1 y2 y3) (commute_apart.l0 (k + 1) y0 y1 y2 y3)) ∧ (∀ y0 y1 y2 y3 y4 y5 y6 y7,LeO (commute_apart.l1 k y0 y1 y2 y3 y4 y5 y6 y7) (commute_apart.l1 (k + 1) y0 y1 y2 y3 y4 y5 y6 y7))
 | 0 => ⟨fun _ _ _ _ r h => by simp [commute_apart.l0] at h,fun _ _ _ _ _ _ _ _ r h => by simp [commute_apart.l1] at h⟩
 | k + 1 => by
  obtain ⟨ih0,ih1⟩:=commute_apart.mono_l k
  refine ⟨?_,?_⟩
  ·intro y0 y1 y2 y3
   unfold commute_apart.l0
   repeat' first
   | (with_reducible exact ih0 _ _ _ _)
   | (with_reducible exact ih1 _ _ _ _ _ _ _ _)
   | (with_reducible exact LeO.refl _)
   | (with_reducible exact LeO.none _)
   | (with_reducible refine LeO.ite ?_ ?_)
   | (with_reducible refine LeO.bind ?_ (fun _ => ?_))
   | exact ih0 _ _ _ _
   | exact ih1 _ _ _ _ _ _ _ _
   | exact LeO.none _
   | refine LeO.ite ?_ ?_
   | refine LeO.bind ?_ (fun _ => ?_)
  ·intro y0 y1 y2 y3 y4 y5 y6 y7
   unfold commute_apart.l1
   repeat' first
   | (with_reducible exact ih0 _ _ _ _)
   | (with_reducible exact ih1 _ _ _ _ _ _ _ _)
   | (with_reducible exact LeO.refl _)
   | (with_reducible exact LeO.none _)
   | (with_reducible refine LeO.ite ?_ ?_)
   | (with_reducible refine LeO.bind ?_ (fun _ => ?_))
   | exact ih0 _ _ _ _
   | exact ih1 _ _ _ _ _ _ _ _
   | exact LeO.none _
   | refine LeO.ite ?_ ?_
   | refine LeO.bind ?_ (fun _ => ?_)
theorem commute_apart.mono : ∀ a0 a1 k,LeO (commute_apart.f k a0 a1) (commute_apart.f (k + 1) a0 a1):=by
 intro a0 a1 k
 obtain ⟨ih0,ih1⟩:=commute_apart.mono_l k
 unfold commute_apart.f
 repeat' first
   | (with_reducible exact ih0 _ _ _ _)
   | (with_reducible exact ih1 _ _ _ _ _ _ _ _)
   | (with_reducible exact LeO.refl _)
   | (with_reducible exact LeO.none _)
   | (with_reducible refine LeO.ite ?_ ?_)
   | (with_reducible refine LeO.bind ?_ (fun _ => ?_))
   | exact ih0 _ _ _ _
   | exact ih1 _ _ _ _ _ _ _ _
   | exact LeO.none _
   | refine LeO.ite ?_ ?_
   | refine LeO.bind ?_ (fun _ => ?_)
set_option maxHeartbeats 8000000 in
set_option maxRecDepth 100000 in
theorem commute_apart.calls (k : Nat) (A0 : Option Addr) (c0 : Nat) (l0 : List ByteArray) (A1 : Option Addr) (c1 : Nat) (l1 : List ByteArray) (r : Bool) (w : World) (hr0 : Kd.C Kd.string w A0 l0.length l0) (hc0 : l0.length ≤ c0) (hr1 : Kd.C Kd.string w A1 l1.length l1) (hc1 : l1.length ≤ c1) (h : commute_apart.f k l0 l1 = some r) :
  Calls Tryd.prog 106 #[.slice A0 l0.length c0,.slice A1 l1.length c1] w fun e w' => e = .returned (.bool r) ∧ Drawn0 w w':=by
 have HR0:=Aside0.mk hr0
 have HC0:=Aside0.mk hc0
 clear hr0 hc0
 have HR1:=Aside0.mk hr1
 have HC1:=Aside0.mk hc1
 clear hr1 hc1
 have H : (commute_apart.l0 k l1 l0 (l0.length : Int) 0) = some r:=h
 clear h
 have H':=Aside0.mk H
 clear H
 go_enter Tryd.func106,Tryd.ntmps106
 go_wp2
 go_loopg [11] k (fun kq v11 w' => ∃ (x11_1 : Int),v11 = .int .i64 x11_1 ∧ Aside0 (commute_apart.l0 kq l1 l0 (l0.length : Int) x11_1 = some r) ∧ Aside0 (kq ≤ k) ∧ Drawn0 w w')
 case atStart => exact ⟨(0),(by first | rfl | (simp; done) | (simp [*]; done)),H',⟨Nat.le_refl _⟩,by repeat (first | exact Drawn0.refl _ | apply Drawn0.step)⟩
 case round =>
  clear H'
  try clear c1
  try clear p2
  obtain ⟨x11_1,rfl,HA,HK1,⟨m1,rfl⟩⟩:=hrel
  cases gk with
  | zero => exact absurd HA.out (by simp [commute_apart.l0])
  | succ k1 =>
   have H:=HA.out
   clear HA
   simp only [commute_apart.l0] at H
   by_cases c3 : x11_1 < (l0.length : Int)
   ·rw [if_pos c3] at H
    have c3b0 : decide (x11_1 < (l0.length : Int)) = true:=decide_eq_true c3
    clear c3
    by_cases c4 : 0 ≤ x11_1
    ·rw [if_pos c4] at H
     have c4b0 : decide (0 ≤ x11_1) = true:=decide_eq_true c4
     clear c4
     by_cases c5 : x11_1 < (l0.length : Int)
     ·rw [if_pos c5] at H
      have c5b0 : decide (x11_1 < (l0.length : Int)) = true:=decide_eq_true c5
      clear c5
      have H':=Aside0.mk H
      clear H
      have p170 : 0 ≤ (x11_1 : Int):=of_decide_eq_true (by first | (with_reducible assumption) | assumption)
      have q170 : x11_1 < (l0.length : Int):=of_decide_eq_true (by first | (with_reducible assumption) | assumption)
      obtain ⟨ad170,e170,hx170_0⟩:=Kd.at_string HR0.out x11_1 p170 q170
      cases e170
      replace p170:=eq_true p170
      replace q170:=eq_true q170
      go_wp2
      go_loopg [17] k1 (fun kq v17 w' => ∃ (x17_2 : Int),v17 = .int .i64 x17_2 ∧ Aside0 (commute_apart.l1 kq l1 (rdOf ByteArray.empty l0 x11_1) l0 (l0.length : Int) x11_1 l1 (l1.length : Int) x17_2 = some r) ∧ Aside0 (kq ≤ k1) ∧ Drawn0 w w')
      case atStart => exact ⟨(0),(by first | rfl | (simp; done) | (simp [*]; done)),H',⟨Nat.le_refl _⟩,by repeat (first | exact Drawn0.refl _ | apply Drawn0.step)⟩
      case round =>
       clear H'
       try clear c1
       try clear p1
       try clear q1
       try clear hx1
       try clear p2
       try clear c3
       try clear c3b0
       try clear c4
       try clear c4b0
       try clear c5
       try clear c5b0
       try clear hx170_0
       try clear p170
       try clear p2
       try clear q170
       obtain ⟨x17_2,rfl,HA,HK2,⟨m2,rfl⟩⟩:=hrel
       cases gk with
       | zero => exact absurd HA.out (by simp [commute_apart.l1])
       | succ k2 =>
        have H:=HA.out
        clear HA
        simp only [commute_apart.l1] at H
        by_cases c6 : x17_2 < (l1.length : Int)
        ·rw [if_pos c6] at H
         have c6b0 : decide (x17_2 < (l1.length : Int)) = true:=decide_eq_true c6
         clear c6
         by_cases c7 : 0 ≤ x17_2
         ·rw [if_pos c7] at H
          have c7b0 : decide (0 ≤ x17_2) = true:=decide_eq_true c7
          clear c7
          by_cases c8 : x17_2 < (l1.length : Int)
          ·rw [if_pos c8] at H
           have c8b0 : decide (x17_2 < (l1.length : Int)) = true:=decide_eq_true c8
           clear c8
           replace H:=Option.bind_eq_some_iff.mp H
           obtain ⟨t172,A90,H⟩:=H
           replace H : (if t172 = true then (commute_apart.l1 k2 l1 (rdOf ByteArray.empty l0 x11_1) l0 (l0.length : Int) x11_1 l1 (l1.length : Int) (wrap64 (x17_2 + 1))) else (some false)) = some r:=H
           have A9:=Aside0.mk A90
           clear A90
           by_cases c10 : t172 = true
           ·subst c10
            have H1 : (commute_apart.l1 k2 l1 (rdOf ByteArray.empty l0 x11_1) l0 (l0.length : Int) x11_1 l1 (l1.length : Int) (wrap64 (x17_2 + 1))) = some r:=by rw [if_pos rfl] at H; exact H
            clear H
            have H:=H1
            clear H1
            have H':=Aside0.mk H
            clear H
            have p171 : 0 ≤ (x17_2 : Int):=of_decide_eq_true (by first | (with_reducible assumption) | assumption)
            have q171 : x17_2 < (l1.length : Int):=of_decide_eq_true (by first | (with_reducible assumption) | assumption)
            obtain ⟨ad171,e171,hx171_0⟩:=Kd.at_string HR1.out x17_2 p171 q171
            cases e171
            replace p171:=eq_true p171
            replace q171:=eq_true q171
            go_wp2_with (first | ((with_reducible refine gate_callee (f:=48) rfl ?_); refine goesL_ (some 23) rfl rfl Tryd.func48 (by kernel_rfl) rfl #[.string (rdOf ByteArray.empty l0 x11_1),.string (rdOf ByteArray.empty l1 x17_2)] rfl (by (try simp only [List.map_toArray,List.map_cons,List.map_nil]); first | done | rfl | (simp only [List.length_drop,List.length_take]; rfl)) ?_; (with_reducible refine (path_Apart.calls (rdOf ByteArray.empty l0 x11_1) (rdOf ByteArray.empty l1 x17_2) true _ A9.out).mono ?_); rintro e w' ⟨rfl,⟨nd,rfl⟩⟩; refine ⟨_,rfl,?_⟩))
            go_roundg k2
            case measure => have:=HK1.out; have:=HK2.out; omega
            case rel => exact ⟨(wrap64 (x17_2 + 1)),(by first | rfl | (simp; done) | (simp [*]; done)),H',⟨by have:=HK1.out; have:=HK2.out; omega⟩,by repeat (first | exact Drawn0.refl _ | apply Drawn0.step)⟩
           ·replace c10:=Bool.eq_false_iff.mpr c10
            subst c10
            have H1 : (some false) = some r:=by rw [if_neg (show ¬ (false = true) by decide)] at H; exact H
            clear H
            have H:=H1
            clear H1
            obtain rfl:=Option.some.inj H
            have p171 : 0 ≤ (x17_2 : Int):=of_decide_eq_true (by first | (with_reducible assumption) | assumption)
            have q171 : x17_2 < (l1.length : Int):=of_decide_eq_true (by first | (with_reducible assumption) | assumption)
            obtain ⟨ad171,e171,hx171_0⟩:=Kd.at_string HR1.out x17_2 p171 q171
            cases e171
            replace p171:=eq_true p171
            replace q171:=eq_true q171
            go_wp2_with (first | ((with_reducible refine gate_callee (f:=48) rfl ?_); refine goesL_ (some 23) rfl rfl Tryd.func48 (by kernel_rfl) rfl #[.string (rdOf ByteArray.empty l0 x11_1),.string (rdOf ByteArray.empty l1 x17_2)] rfl (by (try simp only [List.map_toArray,List.map_cons,List.map_nil]); first | done | rfl | (simp only [List.length_drop,List.length_take]; rfl)) ?_; (with_reducible refine (path_Apart.calls (rdOf ByteArray.empty l0 x11_1) (rdOf ByteArray.empty l1 x17_2) false _ A9.out).mono ?_); rintro e w' ⟨rfl,⟨nd,rfl⟩⟩; refine ⟨_,rfl,?_⟩))
            go_ret
            exact ⟨by first | rfl | (simp; done) | (simp [*]; done),by repeat (first | exact Drawn0.refl _ | apply Drawn0.step)⟩
          ·rw [if_neg c8] at H
           exact absurd H (by simp)
         ·rw [if_neg c7] at H
          exact absurd H (by simp)
        ·rw [if_neg c6] at H
         have c6b0 : decide (x17_2 < (l1.length : Int)) = false:=decide_eq_false c6
         clear c6
         have H':=Aside0.mk H
         clear H
         go_wp2
         go_roundg k2
         case measure => have:=HK1.out; have:=HK2.out; omega
         case rel => exact ⟨(wrap64 (x11_1 + 1)),(by first | rfl | (simp; done) | (simp [*]; done)),H',⟨by have:=HK1.out; have:=HK2.out; omega⟩,by repeat (first | exact Drawn0.refl _ | apply Drawn0.step)⟩
     ·rw [if_neg c5] at H
      exact absurd H (by simp)
    ·rw [if_neg c4] at H
     exact absurd H (by simp)
   ·rw [if_neg c3] at H
    have c3b0 : decide (x11_1 < (l0.length : Int)) = false:=decide_eq_false c3
    clear c3
    obtain rfl:=Option.some.inj H
    go_wp2
    go_ret
    exact ⟨by first | rfl | (simp; done) | (simp [*]; done),by repeat (first | exact Drawn0.refl _ | apply Drawn0.step)⟩

-- NOT PRINTED: function 107 (commute_paths)

-- NOT PRINTED: function 84 (commute_still)

-- NOT PRINTED: function 85 (commute_beside)

-- NOT PRINTED: function 86 (commute_both)

-- NOT PRINTED: function 52 (commute_rules)

/-! ### commute_class: function 53 -/
def commute_class.f (a0_0 : Int) (a0_1 : ByteArray) (a0_2 : ByteArray) (a0_3 : ByteArray) (a0_4 : Int) (l0_5 : List ByteArray) (l0_6 : List ByteArray) : Option (Int):=if a0_0 = 10 then (some 2) else (if a0_0 ≥ 7 then (some 1) else (some 0))
set_option maxHeartbeats 8000000 in
set_option maxRecDepth 100000 in
theorem commute_class.calls (a0_0 : Int) (a0_1 : ByteArray) (a0_2 : ByteArray) (a0_3 : ByteArray) (a0_4 : Int) (A0_5 : Option Addr) (c0_5 : Nat) (l0_5 : List ByteArray) (A0_6 : Option Addr) (c0_6 : Nat) (l0_6 : List ByteArray) (r : Int) (w : World) (hr0_5 : Kd.C Kd.string w A0_5 l0_5.length l0_5) (hc0_5 : l0_5.length ≤ c0_5) (hr0_6 : Kd.C Kd.string w A0_6 l0_6.length l0_6) (hc0_6 : l0_6.length ≤ c0_6) (h : commute_class.f a0_0 a0_1 a0_2 a0_3 a0_4 l0_5 l0_6 = some r) :
  Calls Tryd.prog 53 #[.agg #[.int .i64 a0_0,.string a0_1,.string a0_2,.string a0_3,.int .i64 a0_4,.slice A0_5 l0_5.length c0_5,.slice A0_6 l0_6.length c0_6]] w fun e w' => e = .returned (.int .i64 r) ∧ Below w.heap.size w w':=by
 have hu24:=Tryd.underlying24
 have HR0_5:=Aside0.mk hr0_5
 have HC0_5:=Aside0.mk hc0_5
 clear hr0_5 hc0_5
 have HR0_6:=Aside0.mk hr0_6
 have HC0_6:=Aside0.mk hc0_6
 clear hr0_6 hc0_6
 have HB:=Aside0.mk (Below.refl w.heap.size w)
 have H : (if a0_0 = 10 then (some 2) else (if a0_0 ≥ 7 then (some 1) else (some 0))) = some r:=h
 clear h
 by_cases c2 : a0_0 = 10
 ·rw [if_pos c2] at H
  have c2b0 : (a0_0 == 10) = true:=beq_iff_eq.mpr c2
  have c2b1 : (a0_0 != 10) = false:=bne_eq_false_iff_eq.mpr c2
  clear c2
  obtain rfl:=Option.some.inj H
  go_enter Tryd.func53,Tryd.ntmps53
  go_wp2_with (first | ((with_reducible refine gate_dst (N:=1) rfl ?_); refine box_event ?hg (N:=1) ?hd (cs:=#[.int .i64 a0_0,.string a0_1,.string a0_2,.string a0_3,.int .i64 a0_4,.slice A0_5 l0_5.length c0_5,.slice A0_6 l0_6.length c0_6]) (t:=24) ?hr ?_; (case hd => rfl); (case hg => rfl); (case hr => first | (go_simp; done) | (go_simp; rfl)); intro gb179 hg w3 hbox hb; have n0_:=Aside0.mk (below_step (by repeat (first | (with_reducible first | exact HB.out | apply below_alloc | apply pw_below_drewN | apply below_drew1) | exact HB.out)) hb); have n1_:=Aside0.mk (hbox); have n2_:=Aside0.mk ((by rw [hg]; exact (below_size (by repeat (first | (with_reducible first | exact HB.out | apply below_alloc | apply pw_below_drewN | apply below_drew1) | exact HB.out))) : w.heap.size ≤ gb179)); have n3_:=Aside0.mk ((by rw [hg]; exact (below_size (by repeat (first | (with_reducible first | exact HB.out | apply below_alloc | apply pw_below_drewN | apply below_drew1) | exact HB.out))) : w.heap.size ≤ gb179)); clear HB; have HB:=n0_; have BK179:=n1_; have GW179:=n2_; have GE179:=n3_; clear n0_ n1_ n2_ n3_; clear hb hbox hg; have hcz4_0 : w3.cell? ⟨gb179,0,none⟩ = some (.int .i64 a0_0):=(blk_cell BK179.out 0).trans rfl; have hcz4_1 : w3.cell? ⟨gb179,1,none⟩ = some (.string a0_1):=(blk_cell BK179.out 1).trans rfl; have hcz4_2 : w3.cell? ⟨gb179,2,none⟩ = some (.string a0_2):=(blk_cell BK179.out 2).trans rfl; have hcz4_3 : w3.cell? ⟨gb179,3,none⟩ = some (.string a0_3):=(blk_cell BK179.out 3).trans rfl; have hcz4_4 : w3.cell? ⟨gb179,4,none⟩ = some (.int .i64 a0_4):=(blk_cell BK179.out 4).trans rfl; have hcz4_5 : w3.cell? ⟨gb179,5,none⟩ = some (.slice A0_5 l0_5.length c0_5):=(blk_cell BK179.out 5).trans rfl; have hcz4_6 : w3.cell? ⟨gb179,6,none⟩ = some (.slice A0_6 l0_6.length c0_6):=(blk_cell BK179.out 6).trans rfl; have hfz4_0:=blk_frozen BK179.out 0; have hfz4_1:=blk_frozen BK179.out 1; have hfz4_2:=blk_frozen BK179.out 2; have hfz4_3:=blk_frozen BK179.out 3; have hfz4_4:=blk_frozen BK179.out 4; have hfz4_5:=blk_frozen BK179.out 5; have hfz4_6:=blk_frozen BK179.out 6))
  go_ret
  exact ⟨by first | rfl | (simp [errW_none,errW_some] <;> rfl) | (simp [*,errW_none,errW_some] <;> rfl),by repeat (first | (with_reducible first | exact HB.out | apply below_alloc | apply pw_below_drewN | apply below_drew1 | refine below_set ?_ GE179.out) | exact HB.out)⟩
 ·rw [if_neg c2] at H
  have c2b0 : (a0_0 == 10) = false:=beq_eq_false_iff_ne.mpr c2
  have c2b1 : (a0_0 != 10) = true:=bne_iff_ne.mpr c2
  by_cases c5 : a0_0 ≥ 7
  ·rw [if_pos c5] at H
   have c5b0 : decide (7 ≤ a0_0) = true:=decide_eq_true c5
   clear c5
   obtain rfl:=Option.some.inj H
   go_enter Tryd.func53,Tryd.ntmps53
   go_wp2_with (first | ((with_reducible refine gate_dst (N:=1) rfl ?_); refine box_event ?hg (N:=1) ?hd (cs:=#[.int .i64 a0_0,.string a0_1,.string a0_2,.string a0_3,.int .i64 a0_4,.slice A0_5 l0_5.length c0_5,.slice A0_6 l0_6.length c0_6]) (t:=24) ?hr ?_; (case hd => rfl); (case hg => rfl); (case hr => first | (go_simp; done) | (go_simp; rfl)); intro gb179 hg w6 hbox hb; have n0_:=Aside0.mk (below_step (by repeat (first | (with_reducible first | exact HB.out | apply below_alloc | apply pw_below_drewN | apply below_drew1) | exact HB.out)) hb); have n1_:=Aside0.mk (hbox); have n2_:=Aside0.mk ((by rw [hg]; exact (below_size (by repeat (first | (with_reducible first | exact HB.out | apply below_alloc | apply pw_below_drewN | apply below_drew1) | exact HB.out))) : w.heap.size ≤ gb179)); have n3_:=Aside0.mk ((by rw [hg]; exact (below_size (by repeat (first | (with_reducible first | exact HB.out | apply below_alloc | apply pw_below_drewN | apply below_drew1) | exact HB.out))) : w.heap.size ≤ gb179)); clear HB; have HB:=n0_; have BK179:=n1_; have GW179:=n2_; have GE179:=n3_; clear n0_ n1_ n2_ n3_; clear hb hbox hg; have hcz7_0 : w6.cell? ⟨gb179,0,none⟩ = some (.int .i64 a0_0):=(blk_cell BK179.out 0).trans rfl; have hcz7_1 : w6.cell? ⟨gb179,1,none⟩ = some (.string a0_1):=(blk_cell BK179.out 1).trans rfl; have hcz7_2 : w6.cell? ⟨gb179,2,none⟩ = some (.string a0_2):=(blk_cell BK179.out 2).trans rfl; have hcz7_3 : w6.cell? ⟨gb179,3,none⟩ = some (.string a0_3):=(blk_cell BK179.out 3).trans rfl; have hcz7_4 : w6.cell? ⟨gb179,4,none⟩ = some (.int .i64 a0_4):=(blk_cell BK179.out 4).trans rfl; have hcz7_5 : w6.cell? ⟨gb179,5,none⟩ = some (.slice A0_5 l0_5.length c0_5):=(blk_cell BK179.out 5).trans rfl; have hcz7_6 : w6.cell? ⟨gb179,6,none⟩ = some (.slice A0_6 l0_6.length c0_6):=(blk_cell BK179.out 6).trans rfl; have hfz7_0:=blk_frozen BK179.out 0; have hfz7_1:=blk_frozen BK179.out 1; have hfz7_2:=blk_frozen BK179.out 2; have hfz7_3:=blk_frozen BK179.out 3; have hfz7_4:=blk_frozen BK179.out 4; have hfz7_5:=blk_frozen BK179.out 5; have hfz7_6:=blk_frozen BK179.out 6))
   go_ret
   exact ⟨by first | rfl | (simp [errW_none,errW_some] <;> rfl) | (simp [*,errW_none,errW_some] <;> rfl),by repeat (first | (with_reducible first | exact HB.out | apply below_alloc | apply pw_below_drewN | apply below_drew1 | refine below_set ?_ GE179.out) | exact HB.out)⟩
  ·rw [if_neg c5] at H
   have c5b0 : decide (7 ≤ a0_0) = false:=decide_eq_false c5
   clear c5
   obtain rfl:=Option.some.inj H
   go_enter Tryd.func53,Tryd.ntmps53
   go_wp2_with (first | ((with_reducible refine gate_dst (N:=1) rfl ?_); refine box_event ?hg (N:=1) ?hd (cs:=#[.int .i64 a0_0,.string a0_1,.string a0_2,.string a0_3,.int .i64 a0_4,.slice A0_5 l0_5.length c0_5,.slice A0_6 l0_6.length c0_6]) (t:=24) ?hr ?_; (case hd => rfl); (case hg => rfl); (case hr => first | (go_simp; done) | (go_simp; rfl)); intro gb179 hg w8 hbox hb; have n0_:=Aside0.mk (below_step (by repeat (first | (with_reducible first | exact HB.out | apply below_alloc | apply pw_below_drewN | apply below_drew1) | exact HB.out)) hb); have n1_:=Aside0.mk (hbox); have n2_:=Aside0.mk ((by rw [hg]; exact (below_size (by repeat (first | (with_reducible first | exact HB.out | apply below_alloc | apply pw_below_drewN | apply below_drew1) | exact HB.out))) : w.heap.size ≤ gb179)); have n3_:=Aside0.mk ((by rw [hg]; exact (below_size (by repeat (first | (with_reducible first | exact HB.out | apply below_alloc | apply pw_below_drewN | apply below_drew1) | exact HB.out))) : w.heap.size ≤ gb179)); clear HB; have HB:=n0_; have BK179:=n1_; have GW179:=n2_; have GE179:=n3_; clear n0_ n1_ n2_ n3_; clear hb hbox hg; have hcz9_0 : w8.cell? ⟨gb179,0,none⟩ = some (.int .i64 a0_0):=(blk_cell BK179.out 0).trans rfl; have hcz9_1 : w8.cell? ⟨gb179,1,none⟩ = some (.string a0_1):=(blk_cell BK179.out 1).trans rfl; have hcz9_2 : w8.cell? ⟨gb179,2,none⟩ = some (.string a0_2):=(blk_cell BK179.out 2).trans rfl; have hcz9_3 : w8.cell? ⟨gb179,3,none⟩ = some (.string a0_3):=(blk_cell BK179.out 3).trans rfl; have hcz9_4 : w8.cell? ⟨gb179,4,none⟩ = some (.int .i64 a0_4):=(blk_cell BK179.out 4).trans rfl; have hcz9_5 : w8.cell? ⟨gb179,5,none⟩ = some (.slice A0_5 l0_5.length c0_5):=(blk_cell BK179.out 5).trans rfl; have hcz9_6 : w8.cell? ⟨gb179,6,none⟩ = some (.slice A0_6 l0_6.length c0_6):=(blk_cell BK179.out 6).trans rfl; have hfz9_0:=blk_frozen BK179.out 0; have hfz9_1:=blk_frozen BK179.out 1; have hfz9_2:=blk_frozen BK179.out 2; have hfz9_3:=blk_frozen BK179.out 3; have hfz9_4:=blk_frozen BK179.out 4; have hfz9_5:=blk_frozen BK179.out 5; have hfz9_6:=blk_frozen BK179.out 6))
   go_ret
   exact ⟨by first | rfl | (simp [errW_none,errW_some] <;> rfl) | (simp [*,errW_none,errW_some] <;> rfl),by repeat (first | (with_reducible first | exact HB.out | apply below_alloc | apply pw_below_drewN | apply below_drew1 | refine below_set ?_ GE179.out) | exact HB.out)⟩

-- NOT PRINTED: function 24 (commute_Commute)

-- NOT PRINTED: function 26 (commute_Past)

-- NOT PRINTED: function 23 (counterpanelaw10_head)

/-! ### counterpaneref04_Within: function 59 -/
def counterpaneref04_Within.f (a0 : ByteArray) (a1 : ByteArray) : Option (Bool):=if a0.toList = a1.toList then (some true) else (if (a0.size : Int) > (a1.size : Int) then (if 0 ≤ (a1.size : Int) then (if (a1.size : Int) ≤ (a0.size : Int) then (if (a0.extract 0 ((a1.size : Int) : Int).toNat).toList = a1.toList then (if (a1.size : Int) < (a0.size : Int) then (some ((bt a0 (a1.size : Int)) == 47)) else (none)) else (some false)) else (none)) else (none)) else (some false))
set_option maxHeartbeats 8000000 in
set_option maxRecDepth 100000 in
theorem counterpaneref04_Within.calls (a0 : ByteArray) (a1 : ByteArray) (r : Bool) (w : World) (h : counterpaneref04_Within.f a0 a1 = some r) :
  Calls Tryd.prog 59 #[.string a0,.string a1] w fun e w' => e = .returned (.bool r) ∧ Drawn0 w w':=by
 have H : (if a0.toList = a1.toList then (some true) else (if (a0.size : Int) > (a1.size : Int) then (if 0 ≤ (a1.size : Int) then (if (a1.size : Int) ≤ (a0.size : Int) then (if (a0.extract 0 ((a1.size : Int) : Int).toNat).toList = a1.toList then (if (a1.size : Int) < (a0.size : Int) then (some ((bt a0 (a1.size : Int)) == 47)) else (none)) else (some false)) else (none)) else (none)) else (some false))) = some r:=h
 clear h
 by_cases c3 : a0.toList = a1.toList
 ·rw [if_pos c3] at H
  have c3b0 : (a0.toList == a1.toList) = true:=beq_iff_eq.mpr c3
  have c3b1 : (a0.toList != a1.toList) = false:=bne_eq_false_iff_eq.mpr c3
  clear c3
  obtain rfl:=Option.some.inj H
  (try simp only [Int.toNat_natCast] at *)
  go_enter Tryd.func59,Tryd.ntmps59
  go_wp2
  go_ret
  exact ⟨by first | rfl | (simp; done) | (simp [*]; done) | (simp_all [bt]; done),by repeat (first | exact Drawn0.refl _ | apply Drawn0.step)⟩
 ·rw [if_neg c3] at H
  have c3b0 : (a0.toList == a1.toList) = false:=beq_eq_false_iff_ne.mpr c3
  have c3b1 : (a0.toList != a1.toList) = true:=bne_iff_ne.mpr c3
  by_cases c4 : (a0.size : Int) > (a1.size : Int)
  ·rw [if_pos c4] at H
   have c4b0 : decide ((a1.size : Int) < (a0.size : Int)) = true:=decide_eq_true c4
   have c4b1 : decide (a1.size < a0.size) = true:=decide_eq_true (Int.ofNat_lt.mp c4)
   clear c4
   by_cases c5 : 0 ≤ (a1.size : Int)
   ·rw [if_pos c5] at H
    have c5b0:=eq_true c5
    have c5b1 : decide (0 ≤ (a1.size : Int)) = true:=decide_eq_true c5
    clear c5
    by_cases c6 : (a1.size : Int) ≤ (a0.size : Int)
    ·rw [if_pos c6] at H
     have c6b0:=eq_true c6
     have c6b1 : decide ((a1.size : Int) ≤ (a0.size : Int)) = true:=decide_eq_true c6
     clear c6
     by_cases c7 : (a0.extract 0 ((a1.size : Int) : Int).toNat).toList = a1.toList
     ·rw [if_pos c7] at H
      have c7b0 : ((a0.extract 0 ((a1.size : Int) : Int).toNat).toList == a1.toList) = true:=beq_iff_eq.mpr c7
      have c7b1 : ((a0.extract 0 ((a1.size : Int) : Int).toNat).toList != a1.toList) = false:=bne_eq_false_iff_eq.mpr c7
      clear c7
      by_cases c8 : (a1.size : Int) < (a0.size : Int)
      ·rw [if_pos c8] at H
       have c8b0 : decide ((a1.size : Int) < (a0.size : Int)) = true:=decide_eq_true c8
       have c8b1 : decide (a1.size < a0.size) = true:=decide_eq_true (Int.ofNat_lt.mp c8)
       clear c8
       obtain rfl:=Option.some.inj H
       have p9 : 0 ≤ ((a1.size : Int) : Int):=of_decide_eq_true (by first | (with_reducible assumption) | assumption)
       have q9 : (a1.size : Int) < (a0.size : Int):=of_decide_eq_true (by first | (with_reducible assumption) | assumption)
       have hx9:=bt_at a0 (a1.size : Int)
       replace p9:=eq_true p9
       replace q9:=eq_true q9
       (try simp only [Int.toNat_natCast] at *)
       go_enter Tryd.func59,Tryd.ntmps59
       go_wp2
       go_ret
       exact ⟨by first | rfl | (simp; done) | (simp [*]; done) | (simp_all [bt]; done),by repeat (first | exact Drawn0.refl _ | apply Drawn0.step)⟩
      ·rw [if_neg c8] at H
       exact absurd H (by simp)
     ·rw [if_neg c7] at H
      have c7b0 : ((a0.extract 0 ((a1.size : Int) : Int).toNat).toList == a1.toList) = false:=beq_eq_false_iff_ne.mpr c7
      have c7b1 : ((a0.extract 0 ((a1.size : Int) : Int).toNat).toList != a1.toList) = true:=bne_iff_ne.mpr c7
      obtain rfl:=Option.some.inj H
      (try simp only [Int.toNat_natCast] at *)
      go_enter Tryd.func59,Tryd.ntmps59
      go_wp2
      go_ret
      exact ⟨by first | rfl | (simp; done) | (simp [*]; done) | (simp_all [bt]; done),by repeat (first | exact Drawn0.refl _ | apply Drawn0.step)⟩
    ·rw [if_neg c6] at H
     exact absurd H (by simp)
   ·rw [if_neg c5] at H
    exact absurd H (by simp)
  ·rw [if_neg c4] at H
   have c4b0 : decide ((a1.size : Int) < (a0.size : Int)) = false:=decide_eq_false c4
   have c4b1 : decide (a1.size < a0.size) = false:=decide_eq_false (fun h => c4 (Int.ofNat_lt.mpr h))
   clear c4
   obtain rfl:=Option.some.inj H
   (try simp only [Int.toNat_natCast] at *)
   go_enter Tryd.func59,Tryd.ntmps59
   go_wp2
   go_ret
   exact ⟨by first | rfl | (simp; done) | (simp [*]; done) | (simp_all [bt]; done),by repeat (first | exact Drawn0.refl _ | apply Drawn0.step)⟩

/-! ### counterpaneref04_Apart: function 28 -/
def counterpaneref04_Apart.f (a0 : ByteArray) (a1 : ByteArray) : Option (Bool):=(counterpaneref04_Within.f a0 a1).bind fun t201 => (if t201 = true then (some false) else ((counterpaneref04_Within.f a1 a0).bind fun t202 => (some (!t202))))
set_option maxHeartbeats 8000000 in
set_option maxRecDepth 100000 in
theorem counterpaneref04_Apart.calls (a0 : ByteArray) (a1 : ByteArray) (r : Bool) (w : World) (h : counterpaneref04_Apart.f a0 a1 = some r) :
  Calls Tryd.prog 28 #[.string a0,.string a1] w fun e w' => e = .returned (.bool r) ∧ Drawn0 w w':=by
 have H : ((counterpaneref04_Within.f a0 a1).bind fun t201 => (if t201 = true then (some false) else ((counterpaneref04_Within.f a1 a0).bind fun t202 => (some (!t202))))) = some r:=h
 clear h
 replace H:=Option.bind_eq_some_iff.mp H
 obtain ⟨t201,A30,H⟩:=H
 replace H : (if t201 = true then (some false) else ((counterpaneref04_Within.f a1 a0).bind fun t202 => (some (!t202)))) = some r:=H
 have A3:=Aside0.mk A30
 clear A30
 by_cases c4 : t201 = true
 ·subst c4
  have H1 : (some false) = some r:=by rw [if_pos rfl] at H; exact H
  clear H
  have H:=H1
  clear H1
  obtain rfl:=Option.some.inj H
  go_enter Tryd.func28,Tryd.ntmps28
  go_wp2_with (first | ((with_reducible refine gate_callee (f:=59) rfl ?_); refine goesL_ (some 7) rfl rfl Tryd.func59 (by kernel_rfl) rfl #[.string a0,.string a1] rfl (by (try simp only [List.map_toArray,List.map_cons,List.map_nil]); first | done | rfl | (simp only [List.length_drop,List.length_take]; rfl)) ?_; (with_reducible refine (counterpaneref04_Within.calls a0 a1 true _ A3.out).mono ?_); rintro e w' ⟨rfl,⟨nd,rfl⟩⟩; refine ⟨_,rfl,?_⟩))
  go_ret
  exact ⟨by first | rfl | (simp; done) | (simp [*]; done),by repeat (first | exact Drawn0.refl _ | apply Drawn0.step)⟩
 ·replace c4:=Bool.eq_false_iff.mpr c4
  subst c4
  have H1 : ((counterpaneref04_Within.f a1 a0).bind fun t202 => (some (!t202))) = some r:=by rw [if_neg (show ¬ (false = true) by decide)] at H; exact H
  clear H
  have H:=H1
  clear H1
  replace H:=Option.bind_eq_some_iff.mp H
  obtain ⟨t202,A50,H⟩:=H
  replace H : (some (!t202)) = some r:=H
  have A5:=Aside0.mk A50
  clear A50
  obtain rfl:=Option.some.inj H
  go_enter Tryd.func28,Tryd.ntmps28
  go_wp2_with (first | ((with_reducible refine gate_callee (f:=59) rfl ?_); refine goesL_ (some 7) rfl rfl Tryd.func59 (by kernel_rfl) rfl #[.string a0,.string a1] rfl (by (try simp only [List.map_toArray,List.map_cons,List.map_nil]); first | done | rfl | (simp only [List.length_drop,List.length_take]; rfl)) ?_; (with_reducible refine (counterpaneref04_Within.calls a0 a1 false _ A3.out).mono ?_); rintro e w' ⟨rfl,⟨nd,rfl⟩⟩; refine ⟨_,rfl,?_⟩) | (go_at_call 59; (with_reducible refine (counterpaneref04_Within.calls a1 a0 t202 _ A5.out).mono ?_); rintro e w' ⟨rfl,⟨nd,rfl⟩⟩))
  go_ret
  exact ⟨by first | rfl | (simp; done) | (simp [*]; done),by repeat (first | exact Drawn0.refl _ | apply Drawn0.step)⟩

/-! ### counterpaneref04_part: function 96 -/
mutual
def counterpaneref04_part.j0 : Nat → ByteArray → Bool → Option (Bool)
 | 0,_,_ => none
 | k + 1,x0,x20 => if x20 = true then (some false) else (counterpaneref04_part.l0 k x0 0)
def counterpaneref04_part.l0 : Nat → ByteArray → Int → Option (Bool)
 | 0,_,_ => none
 | k + 1,x0,x3 => if x3 < (x0.size : Int) then (if 0 ≤ x3 then (if (bt x0 x3) = 46 then (counterpaneref04_part.l0 k x0 (wrap64 (x3 + 1))) else (if (bt x0 x3) = 95 then (counterpaneref04_part.l0 k x0 (wrap64 (x3 + 1))) else (if (bt x0 x3) = 45 then (counterpaneref04_part.l0 k x0 (wrap64 (x3 + 1))) else (if (bt x0 x3) < 97 then (if (bt x0 x3) < 48 then (some false) else (if (bt x0 x3) > 57 then (some false) else (counterpaneref04_part.l0 k x0 (wrap64 (x3 + 1))))) else (if (bt x0 x3) > 122 then (if (bt x0 x3) < 48 then (some false) else (if (bt x0 x3) > 57 then (some false) else (counterpaneref04_part.l0 k x0 (wrap64 (x3 + 1))))) else (counterpaneref04_part.l0 k x0 (wrap64 (x3 + 1)))))))) else (none)) else (some true)
end
def counterpaneref04_part.f (k : Nat) (a0 : ByteArray) : Option (Bool):=if (a0.size : Int) < 1 then (counterpaneref04_part.j0 k a0 true) else (if (a0.size : Int) > 16 then (counterpaneref04_part.j0 k a0 true) else (if a0.toList = ([46] : List UInt8) then (counterpaneref04_part.j0 k a0 true) else (counterpaneref04_part.j0 k a0 (a0.toList == ([46,46] : List UInt8)))))
theorem counterpaneref04_part.mono_l : ∀ k,(∀ y0 y1,LeO (counterpaneref04_part.j0 k y0 y1) (counterpaneref04_part.j0 (k + 1) y0 y1)) ∧ (∀ y0 y1,LeO (counterpaneref04_part.l0 k y0 y1) (counterpaneref04_part.l0 (k + 1) y0 y1))
 | 0 => ⟨fun _ _ r h => by simp [counterpaneref04_part.j0] at h,fun _ _ r h => by simp [counterpaneref04_part.l0] at h⟩
 | k + 1 => by
  obtain ⟨ih0,ih1⟩:=counterpaneref04_part.mono_l k
  refine ⟨?_,?_⟩
  ·intro y0 y1
   unfold counterpaneref04_part.j0
   repeat' first
   | (with_reducible exact ih0 _ _)
   | (with_reducible exact ih1 _ _)
   | (with_reducible exact LeO.refl _)
   | (with_reducible exact LeO.none _)
   | (with_reducible refine LeO.ite ?_ ?_)
   | (with_reducible refine LeO.bind ?_ (fun _ => ?_))
   | exact ih0 _ _
   | exact ih1 _ _
   | exact LeO.none _
   | refine LeO.ite ?_ ?_
   | refine LeO.bind ?_ (fun _ => ?_)
  ·intro y0 y1
   unfold counterpaneref04_part.l0
   repeat' first
   | (with_reducible exact ih0 _ _)
   | (with_reducible exact ih1 _ _)
   | (with_reducible exact LeO.refl _)
   | (with_reducible exact LeO.none _)
   | (with_reducible refine LeO.ite ?_ ?_)
   | (with_reducible refine LeO.bind ?_ (fun _ => ?_))
   | exact ih0 _ _
   | exact ih1 _ _
   | exact LeO.none _
   | refine LeO.ite ?_ ?_
   | refine LeO.bind ?_ (fun _ => ?_)
theorem counterpaneref04_part.mono : ∀ a0 k,LeO (counterpaneref04_part.f k a0) (counterpaneref04_part.f (k + 1) a0):=by
 intro a0 k
 obtain ⟨ih0,ih1⟩:=counterpaneref04_part.mono_l k
 unfold counterpaneref04_part.f
 repeat' first
   | (with_reducible exact ih0 _ _)
   | (with_reducible exact ih1 _ _)
   | (with_reducible exact LeO.refl _)
   | (with_reducible exact LeO.none _)
   | (with_reducible refine LeO.ite ?_ ?_)
   | (with_reducible refine LeO.bind ?_ (fun _ => ?_))
   | exact ih0 _ _
   | exact ih1 _ _
   | exact LeO.none _
   | refine LeO.ite ?_ ?_
   | refine LeO.bind ?_ (fun _ => ?_)
set_option maxHeartbeats 8000000 in
set_option maxRecDepth 100000 in
theorem counterpaneref04_part.calls (k : Nat) (a0 : ByteArray) (r : Bool) (w : World) (h : counterpaneref04_part.f k a0 = some r) :
  Calls Tryd.prog 96 #[.string a0] w fun e w' => e = .returned (.bool r) ∧ Drawn0 w w':=by
 have H : (if (a0.size : Int) < 1 then (counterpaneref04_part.j0 k a0 true) else (if (a0.size : Int) > 16 then (counterpaneref04_part.j0 k a0 true) else (if a0.toList = ([46] : List UInt8) then (counterpaneref04_part.j0 k a0 true) else (counterpaneref04_part.j0 k a0 (a0.toList == ([46,46] : List UInt8)))))) = some r:=h
 clear h
 have HC2:=Aside0.mk H
 clear H
 go_enter Tryd.func96,Tryd.ntmps96
 go_upto_region 1 with (fail)
 go_cut [20] (fun v20 wc => ∃ (kq : Nat) (x20_1 : Bool),v20 = .bool x20_1 ∧ Aside0 (counterpaneref04_part.j0 kq a0 x20_1 = some r) ∧ Aside0 (kq ≤ k) ∧ Drawn0 w wc)
 case first =>
  have H:=HC2.out
  clear HC2
  by_cases c3 : (a0.size : Int) < 1
  ·rw [if_pos c3] at H
   have c3b0 : decide ((a0.size : Int) < 1) = true:=decide_eq_true c3
   have c3b1 : decide (a0.size < 1) = true:=decide_eq_true (by omega)
   clear c3
   (first | rw [c3b0] | (simp only [i64_w,i32_w]; rw [c3b0]) | skip)
   have H':=Aside0.mk H
   clear H
   go_wp2
   go_meet
   case rel => exact ⟨_,(true),(by first | rfl | (simp; done) | (simp [*]; done)),H',⟨by first | omega | exact Nat.le_refl _⟩,by repeat (first | exact Drawn0.refl _ | apply Drawn0.step)⟩
  ·rw [if_neg c3] at H
   have c3b0 : decide ((a0.size : Int) < 1) = false:=decide_eq_false c3
   have c3b1 : decide (a0.size < 1) = false:=decide_eq_false (by omega)
   clear c3
   (first | rw [c3b0] | (simp only [i64_w,i32_w]; rw [c3b0]) | skip)
   by_cases c4 : (a0.size : Int) > 16
   ·rw [if_pos c4] at H
    have c4b0 : decide (16 < (a0.size : Int)) = true:=decide_eq_true c4
    have c4b1 : decide (16 < a0.size) = true:=decide_eq_true (by omega)
    clear c4
    have H':=Aside0.mk H
    clear H
    go_wp2
    go_meet
    case rel => exact ⟨_,(true),(by first | rfl | (simp; done) | (simp [*]; done)),H',⟨by first | omega | exact Nat.le_refl _⟩,by repeat (first | exact Drawn0.refl _ | apply Drawn0.step)⟩
   ·rw [if_neg c4] at H
    have c4b0 : decide (16 < (a0.size : Int)) = false:=decide_eq_false c4
    have c4b1 : decide (16 < a0.size) = false:=decide_eq_false (by omega)
    clear c4
    by_cases c5 : a0.toList = ([46] : List UInt8)
    ·rw [if_pos c5] at H
     have c5b0 : (a0.toList == ([46] : List UInt8)) = true:=beq_iff_eq.mpr c5
     have c5b1 : (a0.toList != ([46] : List UInt8)) = false:=bne_eq_false_iff_eq.mpr c5
     clear c5
     have H':=Aside0.mk H
     clear H
     go_wp2
     go_meet
     case rel => exact ⟨_,(true),(by first | rfl | (simp; done) | (simp [*]; done)),H',⟨by first | omega | exact Nat.le_refl _⟩,by repeat (first | exact Drawn0.refl _ | apply Drawn0.step)⟩
    ·rw [if_neg c5] at H
     have c5b0 : (a0.toList == ([46] : List UInt8)) = false:=beq_eq_false_iff_ne.mpr c5
     have c5b1 : (a0.toList != ([46] : List UInt8)) = true:=bne_iff_ne.mpr c5
     have H':=Aside0.mk H
     clear H
     go_wp2
     go_meet
     case rel => exact ⟨_,((a0.toList == ([46,46] : List UInt8))),(by first | rfl | (simp; done) | (simp [*]; done)),H',⟨by first | omega | exact Nat.le_refl _⟩,by repeat (first | exact Drawn0.refl _ | apply Drawn0.step)⟩
 case rest =>
  clear HC2
  try clear p2
  try clear c3
  try clear c3b0
  try clear c3b1
  try clear c4
  try clear c4b0
  try clear c4b1
  try clear c5
  try clear c5b0
  try clear c5b1
  obtain ⟨kq,x20_1,rfl,HA,HJ1,⟨mc1,rfl⟩⟩:=hcut
  cases kq with
  | zero => exact absurd HA.out (by simp [counterpaneref04_part.j0])
  | succ kj1 =>
   have H:=HA.out
   clear HA
   simp only [counterpaneref04_part.j0] at H
   by_cases c6 : x20_1 = true
   ·subst c6
    have H1 : (some false) = some r:=by rw [if_pos rfl] at H; exact H
    clear H
    have H:=H1
    clear H1
    obtain rfl:=Option.some.inj H
    go_wp2
    go_ret
    exact ⟨by first | rfl | (simp; done) | (simp [*]; done),by repeat (first | exact Drawn0.refl _ | apply Drawn0.step)⟩
   ·replace c6:=Bool.eq_false_iff.mpr c6
    subst c6
    have H1 : (counterpaneref04_part.l0 kj1 a0 0) = some r:=by rw [if_neg (show ¬ (false = true) by decide)] at H; exact H
    clear H
    have H:=H1
    clear H1
    have H':=Aside0.mk H
    clear H
    go_wp2
    go_loopg [3] kj1 (fun kq v3 w' => ∃ (x3_2 : Int),v3 = .int .i64 x3_2 ∧ Aside0 (counterpaneref04_part.l0 kq a0 x3_2 = some r) ∧ Aside0 (kq ≤ kj1) ∧ Drawn0 w w')
    case atStart => exact ⟨(0),(by first | rfl | (simp; done) | (simp [*]; done)),H',⟨Nat.le_refl _⟩,by repeat (first | exact Drawn0.refl _ | apply Drawn0.step)⟩
    case round =>
     clear H'
     try clear c1
     try clear p2
     try clear c3
     try clear c3b0
     try clear c3b1
     try clear c4
     try clear c4b0
     try clear c4b1
     try clear c5
     try clear c5b0
     try clear c5b1
     try clear c6
     try clear p2
     obtain ⟨x3_2,rfl,HA,HK2,⟨m2,rfl⟩⟩:=hrel
     cases gk with
     | zero => exact absurd HA.out (by simp [counterpaneref04_part.l0])
     | succ k2 =>
      have H:=HA.out
      clear HA
      simp only [counterpaneref04_part.l0] at H
      by_cases c7 : x3_2 < (a0.size : Int)
      ·rw [if_pos c7] at H
       have c7b0 : decide (x3_2 < (a0.size : Int)) = true:=decide_eq_true c7
       clear c7
       by_cases c8 : 0 ≤ x3_2
       ·rw [if_pos c8] at H
        have c8b0 : decide (0 ≤ x3_2) = true:=decide_eq_true c8
        clear c8
        by_cases c10 : (bt a0 x3_2) = 46
        ·rw [if_pos c10] at H
         have c10b0 : ((bt a0 x3_2) == 46) = true:=beq_iff_eq.mpr c10
         have c10b1 : ((bt a0 x3_2) != 46) = false:=bne_eq_false_iff_eq.mpr c10
         clear c10
         have H':=Aside0.mk H
         clear H
         have p9 : 0 ≤ (x3_2 : Int):=of_decide_eq_true (by first | (with_reducible assumption) | assumption)
         have q9 : x3_2 < (a0.size : Int):=of_decide_eq_true (by first | (with_reducible assumption) | assumption)
         have hx9:=bt_at a0 x3_2
         replace p9:=eq_true p9
         replace q9:=eq_true q9
         go_wp2
         go_roundg k2
         case measure => have:=HJ1.out; have:=HK2.out; omega
         case rel => exact ⟨(wrap64 (x3_2 + 1)),(by first | rfl | (simp; done) | (simp [*]; done)),H',⟨by have:=HJ1.out; have:=HK2.out; omega⟩,by repeat (first | exact Drawn0.refl _ | apply Drawn0.step)⟩
        ·rw [if_neg c10] at H
         have c10b0 : ((bt a0 x3_2) == 46) = false:=beq_eq_false_iff_ne.mpr c10
         have c10b1 : ((bt a0 x3_2) != 46) = true:=bne_iff_ne.mpr c10
         by_cases c11 : (bt a0 x3_2) = 95
         ·rw [if_pos c11] at H
          have c11b0 : ((bt a0 x3_2) == 95) = true:=beq_iff_eq.mpr c11
          have c11b1 : ((bt a0 x3_2) != 95) = false:=bne_eq_false_iff_eq.mpr c11
          clear c11
          have H':=Aside0.mk H
          clear H
          have p9 : 0 ≤ (x3_2 : Int):=of_decide_eq_true (by first | (with_reducible assumption) | assumption)
          have q9 : x3_2 < (a0.size : Int):=of_decide_eq_true (by first | (with_reducible assumption) | assumption)
          have hx9:=bt_at a0 x3_2
          replace p9:=eq_true p9
          replace q9:=eq_true q9
          go_wp2
          go_roundg k2
          case measure => have:=HJ1.out; have:=HK2.out; omega
          case rel => exact ⟨(wrap64 (x3_2 + 1)),(by first | rfl | (simp; done) | (simp [*]; done)),H',⟨by have:=HJ1.out; have:=HK2.out; omega⟩,by repeat (first | exact Drawn0.refl _ | apply Drawn0.step)⟩
         ·rw [if_neg c11] at H
          have c11b0 : ((bt a0 x3_2) == 95) = false:=beq_eq_false_iff_ne.mpr c11
          have c11b1 : ((bt a0 x3_2) != 95) = true:=bne_iff_ne.mpr c11
          by_cases c12 : (bt a0 x3_2) = 45
          ·rw [if_pos c12] at H
           have c12b0 : ((bt a0 x3_2) == 45) = true:=beq_iff_eq.mpr c12
           have c12b1 : ((bt a0 x3_2) != 45) = false:=bne_eq_false_iff_eq.mpr c12
           clear c12
           have H':=Aside0.mk H
           clear H
           have p9 : 0 ≤ (x3_2 : Int):=of_decide_eq_true (by first | (with_reducible assumption) | assumption)
           have q9 : x3_2 < (a0.size : Int):=of_decide_eq_true (by first | (with_reducible assumption) | assumption)
           have hx9:=bt_at a0 x3_2
           replace p9:=eq_true p9
           replace q9:=eq_true q9
           go_wp2
           go_roundg k2
           case measure => have:=HJ1.out; have:=HK2.out; omega
           case rel => exact ⟨(wrap64 (x3_2 + 1)),(by first | rfl | (simp; done) | (simp [*]; done)),H',⟨by have:=HJ1.out; have:=HK2.out; omega⟩,by repeat (first | exact Drawn0.refl _ | apply Drawn0.step)⟩
          ·rw [if_neg c12] at H
           have c12b0 : ((bt a0 x3_2) == 45) = false:=beq_eq_false_iff_ne.mpr c12
           have c12b1 : ((bt a0 x3_2) != 45) = true:=bne_iff_ne.mpr c12
           by_cases c13 : (bt a0 x3_2) < 97
           ·rw [if_pos c13] at H
            have c13b0 : decide ((bt a0 x3_2) < 97) = true:=decide_eq_true c13
            clear c13
            by_cases c14 : (bt a0 x3_2) < 48
            ·rw [if_pos c14] at H
             have c14b0 : decide ((bt a0 x3_2) < 48) = true:=decide_eq_true c14
             clear c14
             obtain rfl:=Option.some.inj H
             have p9 : 0 ≤ (x3_2 : Int):=of_decide_eq_true (by first | (with_reducible assumption) | assumption)
             have q9 : x3_2 < (a0.size : Int):=of_decide_eq_true (by first | (with_reducible assumption) | assumption)
             have hx9:=bt_at a0 x3_2
             replace p9:=eq_true p9
             replace q9:=eq_true q9
             go_wp2
             go_ret
             exact ⟨by first | rfl | (simp; done) | (simp [*]; done),by repeat (first | exact Drawn0.refl _ | apply Drawn0.step)⟩
            ·rw [if_neg c14] at H
             have c14b0 : decide ((bt a0 x3_2) < 48) = false:=decide_eq_false c14
             clear c14
             by_cases c15 : (bt a0 x3_2) > 57
             ·rw [if_pos c15] at H
              have c15b0 : decide (57 < (bt a0 x3_2)) = true:=decide_eq_true c15
              clear c15
              obtain rfl:=Option.some.inj H
              have p9 : 0 ≤ (x3_2 : Int):=of_decide_eq_true (by first | (with_reducible assumption) | assumption)
              have q9 : x3_2 < (a0.size : Int):=of_decide_eq_true (by first | (with_reducible assumption) | assumption)
              have hx9:=bt_at a0 x3_2
              replace p9:=eq_true p9
              replace q9:=eq_true q9
              go_wp2
              go_ret
              exact ⟨by first | rfl | (simp; done) | (simp [*]; done),by repeat (first | exact Drawn0.refl _ | apply Drawn0.step)⟩
             ·rw [if_neg c15] at H
              have c15b0 : decide (57 < (bt a0 x3_2)) = false:=decide_eq_false c15
              clear c15
              have H':=Aside0.mk H
              clear H
              have p9 : 0 ≤ (x3_2 : Int):=of_decide_eq_true (by first | (with_reducible assumption) | assumption)
              have q9 : x3_2 < (a0.size : Int):=of_decide_eq_true (by first | (with_reducible assumption) | assumption)
              have hx9:=bt_at a0 x3_2
              replace p9:=eq_true p9
              replace q9:=eq_true q9
              go_wp2
              go_roundg k2
              case measure => have:=HJ1.out; have:=HK2.out; omega
              case rel => exact ⟨(wrap64 (x3_2 + 1)),(by first | rfl | (simp; done) | (simp [*]; done)),H',⟨by have:=HJ1.out; have:=HK2.out; omega⟩,by repeat (first | exact Drawn0.refl _ | apply Drawn0.step)⟩
           ·rw [if_neg c13] at H
            have c13b0 : decide ((bt a0 x3_2) < 97) = false:=decide_eq_false c13
            clear c13
            by_cases c16 : (bt a0 x3_2) > 122
            ·rw [if_pos c16] at H
             have c16b0 : decide (122 < (bt a0 x3_2)) = true:=decide_eq_true c16
             clear c16
             by_cases c17 : (bt a0 x3_2) < 48
             ·rw [if_pos c17] at H
              have c17b0 : decide ((bt a0 x3_2) < 48) = true:=decide_eq_true c17
              clear c17
              obtain rfl:=Option.some.inj H
              have p9 : 0 ≤ (x3_2 : Int):=of_decide_eq_true (by first | (with_reducible assumption) | assumption)
              have q9 : x3_2 < (a0.size : Int):=of_decide_eq_true (by first | (with_reducible assumption) | assumption)
              have hx9:=bt_at a0 x3_2
              replace p9:=eq_true p9
              replace q9:=eq_true q9
              go_wp2
              go_ret
              exact ⟨by first | rfl | (simp; done) | (simp [*]; done),by repeat (first | exact Drawn0.refl _ | apply Drawn0.step)⟩
             ·rw [if_neg c17] at H
              have c17b0 : decide ((bt a0 x3_2) < 48) = false:=decide_eq_false c17
              clear c17
              by_cases c18 : (bt a0 x3_2) > 57
              ·rw [if_pos c18] at H
               have c18b0 : decide (57 < (bt a0 x3_2)) = true:=decide_eq_true c18
               clear c18
               obtain rfl:=Option.some.inj H
               have p9 : 0 ≤ (x3_2 : Int):=of_decide_eq_true (by first | (with_reducible assumption) | assumption)
               have q9 : x3_2 < (a0.size : Int):=of_decide_eq_true (by first | (with_reducible assumption) | assumption)
               have hx9:=bt_at a0 x3_2
               replace p9:=eq_true p9
               replace q9:=eq_true q9
               go_wp2
               go_ret
               exact ⟨by first | rfl | (simp; done) | (simp [*]; done),by repeat (first | exact Drawn0.refl _ | apply Drawn0.step)⟩
              ·rw [if_neg c18] at H
               have c18b0 : decide (57 < (bt a0 x3_2)) = false:=decide_eq_false c18
               clear c18
               have H':=Aside0.mk H
               clear H
               have p9 : 0 ≤ (x3_2 : Int):=of_decide_eq_true (by first | (with_reducible assumption) | assumption)
               have q9 : x3_2 < (a0.size : Int):=of_decide_eq_true (by first | (with_reducible assumption) | assumption)
               have hx9:=bt_at a0 x3_2
               replace p9:=eq_true p9
               replace q9:=eq_true q9
               go_wp2
               go_roundg k2
               case measure => have:=HJ1.out; have:=HK2.out; omega
               case rel => exact ⟨(wrap64 (x3_2 + 1)),(by first | rfl | (simp; done) | (simp [*]; done)),H',⟨by have:=HJ1.out; have:=HK2.out; omega⟩,by repeat (first | exact Drawn0.refl _ | apply Drawn0.step)⟩
            ·rw [if_neg c16] at H
             have c16b0 : decide (122 < (bt a0 x3_2)) = false:=decide_eq_false c16
             clear c16
             have H':=Aside0.mk H
             clear H
             have p9 : 0 ≤ (x3_2 : Int):=of_decide_eq_true (by first | (with_reducible assumption) | assumption)
             have q9 : x3_2 < (a0.size : Int):=of_decide_eq_true (by first | (with_reducible assumption) | assumption)
             have hx9:=bt_at a0 x3_2
             replace p9:=eq_true p9
             replace q9:=eq_true q9
             go_wp2
             go_roundg k2
             case measure => have:=HJ1.out; have:=HK2.out; omega
             case rel => exact ⟨(wrap64 (x3_2 + 1)),(by first | rfl | (simp; done) | (simp [*]; done)),H',⟨by have:=HJ1.out; have:=HK2.out; omega⟩,by repeat (first | exact Drawn0.refl _ | apply Drawn0.step)⟩
       ·rw [if_neg c8] at H
        exact absurd H (by simp)
      ·rw [if_neg c7] at H
       have c7b0 : decide (x3_2 < (a0.size : Int)) = false:=decide_eq_false c7
       clear c7
       obtain rfl:=Option.some.inj H
       go_wp2
       go_ret
       exact ⟨by first | rfl | (simp; done) | (simp [*]; done),by repeat (first | exact Drawn0.refl _ | apply Drawn0.step)⟩

end Go.Proofs.YthhohbidjhcjeaaDoor.Q
