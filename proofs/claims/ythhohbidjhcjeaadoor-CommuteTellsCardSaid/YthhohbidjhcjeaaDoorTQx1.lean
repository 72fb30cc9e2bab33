/- Printed by a program of this place out of the translation: what the functions compute, and their contracts. -/
import Derived.Test.YthhohbidjhcjeaaDoorTQx0
namespace Go.Proofs.YthhohbidjhcjeaaDoor.Q
open Go.RowKit Go.Proofs.YthhohbidjhcjeaaDoorW.PrintWords Go.Proofs.YthhohbidjhcjeaaDoorW.PrintLast Go.Proofs.YthhohbidjhcjeaaDoorW.PrintMore
attribute [local go_sem] max2_int min2_int max_two min_two max_three min_three max_four min_four   -- for this text's walks alone
set_option linter.unusedVariables false
set_option linter.unusedSimpArgs false

-- NOT PRINTED: function 45 (invert_opposites)

-- NOT PRINTED: function 51 (api_Prim)

/-! ### counterpanelaw08_Great: function 16 -/
mutual
def counterpanelaw08_Great.j1 : Nat → Int → Int → ByteArray → ByteArray → ByteArray → Int → List ByteArray → List ByteArray → Option (Bool)
 | 0,_,_,_,_,_,_,_,_ => none
 | k + 1,x3,x102000,x102001,x102002,x102003,x102004,x102005,x102006 => counterpanelaw08_Great.l1 k x3 0 x102000 x102001 x102002 x102003 x102004 x102005 x102006
def counterpanelaw08_Great.l1 : Nat → Int → Int → Int → ByteArray → ByteArray → ByteArray → Int → List ByteArray → List ByteArray → Option (Bool)
 | 0,_,_,_,_,_,_,_,_,_ => none
 | k + 1,x3,x5,x102000,x102001,x102002,x102003,x102004,x102005,x102006 => if x5 < (x102006.length : Int) then (if x3 < 4000 then (if 0 ≤ x5 then (counterpanelaw08_Great.l1 k (wrap64 (x3 + (mn ((rdOf ByteArray.empty x102006 x5).size : Int) 4000))) (wrap64 (x5 + 1)) x102000 x102001 x102002 x102003 x102004 x102005 x102006) else (none)) else (some (decide (x3 ≥ 4000)))) else (some (decide (x3 ≥ 4000)))
def counterpanelaw08_Great.l0 : Nat → Int → Int → Int → ByteArray → ByteArray → ByteArray → Int → List ByteArray → List ByteArray → Option (Bool)
 | 0,_,_,_,_,_,_,_,_,_ => none
 | k + 1,x3,x4,x102000,x102001,x102002,x102003,x102004,x102005,x102006 => if x4 < (x102005.length : Int) then (if x3 < 4000 then (if 0 ≤ x4 then (counterpanelaw08_Great.l0 k (wrap64 (x3 + (mn ((rdOf ByteArray.empty x102005 x4).size : Int) 4000))) (wrap64 (x4 + 1)) x102000 x102001 x102002 x102003 x102004 x102005 x102006) else (none)) else (counterpanelaw08_Great.j1 k x3 x102000 x102001 x102002 x102003 x102004 x102005 x102006)) else (counterpanelaw08_Great.j1 k x3 x102000 x102001 x102002 x102003 x102004 x102005 x102006)
end
def counterpanelaw08_Great.f (k : Nat) (a0_0 : Int) (a0_1 : ByteArray) (a0_2 : ByteArray) (a0_3 : ByteArray) (a0_4 : Int) (l0_5 : List ByteArray) (l0_6 : List ByteArray) : Option (Bool):=counterpanelaw08_Great.l0 k (wrap64 ((wrap64 ((((mn (a0_1.size : Int) 4000) + (mn (a0_2.size : Int) 4000)) + (mn (a0_3.size : Int) 4000)) + (l0_5.length : Int))) + (l0_6.length : Int))) 0 a0_0 a0_1 a0_2 a0_3 a0_4 l0_5 l0_6
theorem counterpanelaw08_Great.mono_l : ∀ k,(∀ y0 y1 y2 y3 y4 y5 y6 y7,LeO (counterpanelaw08_Great.j1 k y0 y1 y2 y3 y4 y5 y6 y7) (counterpanelaw08_Great.j1 (k + 1) y0 y1 y2 y3 y4 y5 y6 y7)) ∧ (∀ y0 y1 y2 y3 y4 y5 y6 y7 y8,LeO (counterpanelaw08_Great.l1 k y0 y1 y2 y3 y4 y5 y6 y7 y8) (counterpanelaw08_Great.l1 (k + 1) y0 y1 y2 y3 y4 y5 y6 y7 y8)) ∧ (∀ y0 y1 y2 y3 y4 y5 y6 y7 y8,LeO (counterpanelaw08_Great.l0 k y0 y1 y2 y3 y4 y5 y6 y7 y8) (counterpanelaw08_Great.l0 (k + 1) y0 y1 y2 y3 y4 y5 y6 y7 y8))
 | 0 => ⟨fun _ _ _ _ _ _ _ _ r h => by simp [counterpanelaw08_Great.j1] at h,fun _ _ _ _ _ _ _ _ _ r h => by simp [counterpanelaw08_Great.l1] at h,fun _ _ _ _ _ _ _ _ _ r h => by simp [counterpanelaw08_Great.l0] at h⟩
 | k + 1 => by
  obtain ⟨ih0,ih1,ih2⟩:=counterpanelaw08_Great.mono_l k
  refine ⟨?_,?_,?_⟩
  ·intro y0 y1 y2 y3 y4 y5 y6 y7
   unfold counterpanelaw08_Great.j1
   repeat' first
   | (with_reducible exact ih0 _ _ _ _ _ _ _ _)
   | (with_reducible exact ih1 _ _ _ _ _ _ _ _ _)
   | (with_reducible exact ih2 _ _ _ _ _ _ _ _ _)
   | (with_reducible exact LeO.refl _)
   | (with_reducible exact LeO.none _)
   | (with_reducible refine LeO.ite ?_ ?_)
   | (with_reducible refine LeO.bind ?_ (fun _ => ?_))
   | exact ih0 _ _ _ _ _ _ _ _
   | exact ih1 _ _ _ _ _ _ _ _ _
   | exact ih2 _ _ _ _ _ _ _ _ _
   | exact LeO.none _
   | refine LeO.ite ?_ ?_
   | refine LeO.bind ?_ (fun _ => ?_)
  ·intro y0 y1 y2 y3 y4 y5 y6 y7 y8
   unfold counterpanelaw08_Great.l1
   repeat' first
   | (with_reducible exact ih0 _ _ _ _ _ _ _ _)
   | (with_reducible exact ih1 _ _ _ _ _ _ _ _ _)
   | (with_reducible exact ih2 _ _ _ _ _ _ _ _ _)
   | (with_reducible exact LeO.refl _)
   | (with_reducible exact LeO.none _)
   | (with_reducible refine LeO.ite ?_ ?_)
   | (with_reducible refine LeO.bind ?_ (fun _ => ?_))
   | exact ih0 _ _ _ _ _ _ _ _
   | exact ih1 _ _ _ _ _ _ _ _ _
   | exact ih2 _ _ _ _ _ _ _ _ _
   | exact LeO.none _
   | refine LeO.ite ?_ ?_
   | refine LeO.bind ?_ (fun _ => ?_)
  ·intro y0 y1 y2 y3 y4 y5 y6 y7 y8
   unfold counterpanelaw08_Great.l0
   repeat' first
   | (with_reducible exact ih0 _ _ _ _ _ _ _ _)
   | (with_reducible exact ih1 _ _ _ _ _ _ _ _ _)
   | (with_reducible exact ih2 _ _ _ _ _ _ _ _ _)
   | (with_reducible exact LeO.refl _)
   | (with_reducible exact LeO.none _)
   | (with_reducible refine LeO.ite ?_ ?_)
   | (with_reducible refine LeO.bind ?_ (fun _ => ?_))
   | exact ih0 _ _ _ _ _ _ _ _
   | exact ih1 _ _ _ _ _ _ _ _ _
   | exact ih2 _ _ _ _ _ _ _ _ _
   | exact LeO.none _
   | refine LeO.ite ?_ ?_
   | refine LeO.bind ?_ (fun _ => ?_)
theorem counterpanelaw08_Great.mono : ∀ a0 a1 a2 a3 a4 a5 a6 k,LeO (counterpanelaw08_Great.f k a0 a1 a2 a3 a4 a5 a6) (counterpanelaw08_Great.f (k + 1) a0 a1 a2 a3 a4 a5 a6):=by
 intro a0 a1 a2 a3 a4 a5 a6 k
 obtain ⟨ih0,ih1,ih2⟩:=counterpanelaw08_Great.mono_l k
 unfold counterpanelaw08_Great.f
 repeat' first
   | (with_reducible exact ih0 _ _ _ _ _ _ _ _)
   | (with_reducible exact ih1 _ _ _ _ _ _ _ _ _)
   | (with_reducible exact ih2 _ _ _ _ _ _ _ _ _)
   | (with_reducible exact LeO.refl _)
   | (with_reducible exact LeO.none _)
   | (with_reducible refine LeO.ite ?_ ?_)
   | (with_reducible refine LeO.bind ?_ (fun _ => ?_))
   | exact ih0 _ _ _ _ _ _ _ _
   | exact ih1 _ _ _ _ _ _ _ _ _
   | exact ih2 _ _ _ _ _ _ _ _ _
   | exact LeO.none _
   | refine LeO.ite ?_ ?_
   | refine LeO.bind ?_ (fun _ => ?_)
set_option maxHeartbeats 8000000 in
set_option maxRecDepth 100000 in
theorem counterpanelaw08_Great.calls (k : Nat) (a0_0 : Int) (a0_1 : ByteArray) (a0_2 : ByteArray) (a0_3 : ByteArray) (a0_4 : Int) (A0_5 : Option Addr) (c0_5 : Nat) (l0_5 : List ByteArray) (A0_6 : Option Addr) (c0_6 : Nat) (l0_6 : List ByteArray) (r : Bool) (w : World) (hr0_5 : Kd.C Kd.string w A0_5 l0_5.length l0_5) (hc0_5 : l0_5.length ≤ c0_5) (hr0_6 : Kd.C Kd.string w A0_6 l0_6.length l0_6) (hc0_6 : l0_6.length ≤ c0_6) (h : counterpanelaw08_Great.f k a0_0 a0_1 a0_2 a0_3 a0_4 l0_5 l0_6 = some r) :
  Calls Tryd.prog 16 #[.agg #[.int .i64 a0_0,.string a0_1,.string a0_2,.string a0_3,.int .i64 a0_4,.slice A0_5 l0_5.length c0_5,.slice A0_6 l0_6.length c0_6]] w fun e w' => e = .returned (.bool r) ∧ Below w.heap.size w w':=by
 have hu24:=Tryd.underlying24
 have HR0_5:=Aside0.mk hr0_5
 have HC0_5:=Aside0.mk hc0_5
 clear hr0_5 hc0_5
 have HR0_6:=Aside0.mk hr0_6
 have HC0_6:=Aside0.mk hc0_6
 clear hr0_6 hc0_6
 have HB:=Aside0.mk (Below.refl w.heap.size w)
 have H : (counterpanelaw08_Great.l0 k (wrap64 ((wrap64 ((((mn (a0_1.size : Int) 4000) + (mn (a0_2.size : Int) 4000)) + (mn (a0_3.size : Int) 4000)) + (l0_5.length : Int))) + (l0_6.length : Int))) 0 a0_0 a0_1 a0_2 a0_3 a0_4 l0_5 l0_6) = some r:=h
 clear h
 obtain ⟨ji2,hji2⟩ : ∃ j_ : Int,(mn (a0_1.size : Int) 4000) = j_:=⟨_,rfl⟩
 replace H : (counterpanelaw08_Great.l0 k (wrap64 ((wrap64 ((((ji2) + (mn (a0_2.size : Int) 4000)) + (mn (a0_3.size : Int) 4000)) + (l0_5.length : Int))) + (l0_6.length : Int))) 0 a0_0 a0_1 a0_2 a0_3 a0_4 l0_5 l0_6) = some r:=by first | (rw [hji2] at H; exact H) | (simp only [hji2] at H ⊢; exact H)
 (try (have hji2h : ji2 ≤ 4000:=by (rw [← hji2]; unfold mn; (repeat' split) <;> omega)))
 (try (have hji2g : ji2 ≤ 64:=by omega))
 (try (have hji2l : 0 ≤ ji2:=by (rw [← hji2]; unfold mn; (repeat' split) <;> omega)))
 (try (have hji2m : 0 ≤ ji2:=by omega))
 have hji2_ : (if 4000 < (a0_1.size : Int) then 4000 else (a0_1.size : Int)) = ji2:=hji2
 obtain ⟨ji3,hji3⟩ : ∃ j_ : Int,(mn (a0_2.size : Int) 4000) = j_:=⟨_,rfl⟩
 replace H : (counterpanelaw08_Great.l0 k (wrap64 ((wrap64 ((((ji2) + (ji3)) + (mn (a0_3.size : Int) 4000)) + (l0_5.length : Int))) + (l0_6.length : Int))) 0 a0_0 a0_1 a0_2 a0_3 a0_4 l0_5 l0_6) = some r:=by first | (rw [hji3] at H; exact H) | (simp only [hji3] at H ⊢; exact H)
 (try (have hji3h : ji3 ≤ 4000:=by (rw [← hji3]; unfold mn; (repeat' split) <;> omega)))
 (try (have hji3g : ji3 ≤ 64:=by omega))
 (try (have hji3l : 0 ≤ ji3:=by (rw [← hji3]; unfold mn; (repeat' split) <;> omega)))
 (try (have hji3m : 0 ≤ ji3:=by omega))
 have hji3_ : (if 4000 < (a0_2.size : Int) then 4000 else (a0_2.size : Int)) = ji3:=hji3
 obtain ⟨ji4,hji4⟩ : ∃ j_ : Int,(mn (a0_3.size : Int) 4000) = j_:=⟨_,rfl⟩
 replace H : (counterpanelaw08_Great.l0 k (wrap64 ((wrap64 ((((ji2) + (ji3)) + (ji4)) + (l0_5.length : Int))) + (l0_6.length : Int))) 0 a0_0 a0_1 a0_2 a0_3 a0_4 l0_5 l0_6) = some r:=by first | (rw [hji4] at H; exact H) | (simp only [hji4] at H ⊢; exact H)
 (try (have hji4h : ji4 ≤ 4000:=by (rw [← hji4]; unfold mn; (repeat' split) <;> omega)))
 (try (have hji4g : ji4 ≤ 64:=by omega))
 (try (have hji4l : 0 ≤ ji4:=by (rw [← hji4]; unfold mn; (repeat' split) <;> omega)))
 (try (have hji4m : 0 ≤ ji4:=by omega))
 have hji4_ : (if 4000 < (a0_3.size : Int) then 4000 else (a0_3.size : Int)) = ji4:=hji4
 have HC5:=Aside0.mk H
 clear H
 go_enter Tryd.func16,Tryd.ntmps16
 go_upto_block 0 with (first | ((with_reducible refine gate_dst (N:=1) rfl ?_); refine box_event ?hg (N:=1) ?hd (cs:=#[.int .i64 a0_0,.string a0_1,.string a0_2,.string a0_3,.int .i64 a0_4,.slice A0_5 l0_5.length c0_5,.slice A0_6 l0_6.length c0_6]) (t:=24) ?hr ?_; (case hd => rfl); (case hg => rfl); (case hr => first | (go_simp; done) | (go_simp; rfl)); intro gb101 hg w6 hbox hb; have n0_:=Aside0.mk (below_step (by repeat (first | (with_reducible first | exact HB.out | apply below_alloc | apply pw_below_drewN | apply below_drew1) | exact HB.out)) hb); have n1_:=Aside0.mk (hbox); have n2_:=Aside0.mk ((by rw [hg]; exact (below_size (by repeat (first | (with_reducible first | exact HB.out | apply below_alloc | apply pw_below_drewN | apply below_drew1) | exact HB.out))) : w.heap.size ≤ gb101)); have n3_:=Aside0.mk ((by rw [hg]; exact (below_size (by repeat (first | (with_reducible first | exact HB.out | apply below_alloc | apply pw_below_drewN | apply below_drew1) | exact HB.out))) : w.heap.size ≤ gb101)); clear HB; have HB:=n0_; have BK101:=n1_; have GW101:=n2_; have GE101:=n3_; clear n0_ n1_ n2_ n3_; clear hb hbox hg; have hcz7_0 : w6.cell? ⟨gb101,0,none⟩ = some (.int .i64 a0_0):=(blk_cell BK101.out 0).trans rfl; have hcz7_1 : w6.cell? ⟨gb101,1,none⟩ = some (.string a0_1):=(blk_cell BK101.out 1).trans rfl; have hcz7_2 : w6.cell? ⟨gb101,2,none⟩ = some (.string a0_2):=(blk_cell BK101.out 2).trans rfl; have hcz7_3 : w6.cell? ⟨gb101,3,none⟩ = some (.string a0_3):=(blk_cell BK101.out 3).trans rfl; have hcz7_4 : w6.cell? ⟨gb101,4,none⟩ = some (.int .i64 a0_4):=(blk_cell BK101.out 4).trans rfl; have hcz7_5 : w6.cell? ⟨gb101,5,none⟩ = some (.slice A0_5 l0_5.length c0_5):=(blk_cell BK101.out 5).trans rfl; have hcz7_6 : w6.cell? ⟨gb101,6,none⟩ = some (.slice A0_6 l0_6.length c0_6):=(blk_cell BK101.out 6).trans rfl; have hfz7_0:=blk_frozen BK101.out 0; have hfz7_1:=blk_frozen BK101.out 1; have hfz7_2:=blk_frozen BK101.out 2; have hfz7_3:=blk_frozen BK101.out 3; have hfz7_4:=blk_frozen BK101.out 4; have hfz7_5:=blk_frozen BK101.out 5; have hfz7_6:=blk_frozen BK101.out 6))
 (try simp only [Act.put,List.setIfInBounds_toArray,List.set_cons_zero,List.set_cons_succ])
 go_cut [3] (fun v3 wc => ∃ (kq : Nat) (x3_4 : Int),v3 = .int .i64 x3_4 ∧ Aside0 (counterpanelaw08_Great.j1 kq x3_4 a0_0 a0_1 a0_2 a0_3 a0_4 l0_5 l0_6 = some r) ∧ Aside0 (kq ≤ k) ∧ Aside0 (wc.heap[gb101]? = some (.cells #[.int .i64 a0_0,.string a0_1,.string a0_2,.string a0_3,.int .i64 a0_4,(.slice A0_5 l0_5.length c0_5),(.slice A0_6 l0_6.length c0_6)] 24 (0,0))) ∧ Aside0 (Below w.heap.size w wc))
 case first =>
  have H:=HC5.out
  clear HC5
  have H':=Aside0.mk H
  clear H
  go_wp2
  go_loopg [3,4] k (fun kq v3 v4 w' => ∃ (x3_1 : Int) (x4_1 : Int),v3 = .int .i64 x3_1 ∧ v4 = .int .i64 x4_1 ∧ Aside0 (counterpanelaw08_Great.l0 kq x3_1 x4_1 a0_0 a0_1 a0_2 a0_3 a0_4 l0_5 l0_6 = some r) ∧ Aside0 (kq ≤ k) ∧ Aside0 (w'.heap[gb101]? = some (.cells #[.int .i64 a0_0,.string a0_1,.string a0_2,.string a0_3,.int .i64 a0_4,(.slice A0_5 l0_5.length c0_5),(.slice A0_6 l0_6.length c0_6)] 24 (0,0))) ∧ Aside0 (Below w.heap.size w w'))
  case atStart => exact ⟨(wrap64 ((wrap64 ((((ji2) + (ji3)) + (ji4)) + (l0_5.length : Int))) + (l0_6.length : Int))),(0),(by first | rfl | (simp; done) | (simp only [← hji2,← hji3,← hji4] <;> (first | rfl | simp)) | (simp [*]; done)),(by first | rfl | (simp; done) | (simp [*]; done)),H',⟨Nat.le_refl _⟩,⟨by (with_reducible repeat (first | refine blk_drewN ?_ _ | refine blk_drew ?_ | refine blk_alloc ?_ _)); exact BK101.out⟩,⟨by repeat (first | (with_reducible first | exact HB.out | apply below_alloc | apply pw_below_drewN | apply below_drew1 | refine below_set ?_ GE101.out) | exact HB.out)⟩⟩
  case round =>
   clear H'
   try clear c1
   try clear p2
   try clear p6
   try clear hcz7_0
   try clear hcz7_1
   try clear hcz7_2
   try clear hcz7_3
   try clear hcz7_4
   try clear hcz7_5
   try clear hcz7_6
   try clear hfz7_0
   try clear hfz7_1
   try clear hfz7_2
   try clear hfz7_3
   try clear hfz7_4
   try clear hfz7_5
   try clear hfz7_6
   obtain ⟨x3_1,x4_1,rfl,rfl,HA,HK1,BK101,HB⟩:=hrel
   cases gk with
   | zero => exact absurd HA.out (by simp [counterpanelaw08_Great.l0])
   | succ k1 =>
    have H:=HA.out
    clear HA
    simp only [counterpanelaw08_Great.l0] at H
    by_cases c8 : x4_1 < (l0_5.length : Int)
    ·rw [if_pos c8] at H
     have c8b0 : decide (x4_1 < (l0_5.length : Int)) = true:=decide_eq_true c8
     clear c8
     (first | rw [c8b0] | (simp only [i64_w,i32_w]; rw [c8b0]) | skip)
     by_cases c9 : x3_1 < 4000
     ·rw [if_pos c9] at H
      have c9b0 : decide (x3_1 < 4000) = true:=decide_eq_true c9
      clear c9
      by_cases c10 : 0 ≤ x4_1
      ·rw [if_pos c10] at H
       have c10b0 : decide (0 ≤ x4_1) = true:=decide_eq_true c10
       clear c10
       obtain ⟨ji11,hji11⟩ : ∃ j_ : Int,(mn ((rdOf ByteArray.empty l0_5 x4_1).size : Int) 4000) = j_:=⟨_,rfl⟩
       replace H : (counterpanelaw08_Great.l0 k1 (wrap64 (x3_1 + (ji11))) (wrap64 (x4_1 + 1)) a0_0 a0_1 a0_2 a0_3 a0_4 l0_5 l0_6) = some r:=by first | (rw [hji11] at H; exact H) | (simp only [hji11] at H ⊢; exact H)
       have hji11_ : (if 4000 < ((rdOf ByteArray.empty l0_5 x4_1).size : Int) then 4000 else ((rdOf ByteArray.empty l0_5 x4_1).size : Int)) = ji11:=hji11
       have H':=Aside0.mk H
       clear H
       have hcz12_0 : wr.cell? ⟨gb101,0,none⟩ = some (.int .i64 a0_0):=(blk_cell BK101.out 0).trans rfl
       have hcz12_1 : wr.cell? ⟨gb101,1,none⟩ = some (.string a0_1):=(blk_cell BK101.out 1).trans rfl
       have hcz12_2 : wr.cell? ⟨gb101,2,none⟩ = some (.string a0_2):=(blk_cell BK101.out 2).trans rfl
       have hcz12_3 : wr.cell? ⟨gb101,3,none⟩ = some (.string a0_3):=(blk_cell BK101.out 3).trans rfl
       have hcz12_4 : wr.cell? ⟨gb101,4,none⟩ = some (.int .i64 a0_4):=(blk_cell BK101.out 4).trans rfl
       have hcz12_5 : wr.cell? ⟨gb101,5,none⟩ = some (.slice A0_5 l0_5.length c0_5):=(blk_cell BK101.out 5).trans rfl
       have hcz12_6 : wr.cell? ⟨gb101,6,none⟩ = some (.slice A0_6 l0_6.length c0_6):=(blk_cell BK101.out 6).trans rfl
       have hfz12_0:=blk_frozen BK101.out 0
       have hfz12_1:=blk_frozen BK101.out 1
       have hfz12_2:=blk_frozen BK101.out 2
       have hfz12_3:=blk_frozen BK101.out 3
       have hfz12_4:=blk_frozen BK101.out 4
       have hfz12_5:=blk_frozen BK101.out 5
       have hfz12_6:=blk_frozen BK101.out 6
       have p102 : 0 ≤ (x4_1 : Int):=of_decide_eq_true (by first | (with_reducible assumption) | assumption)
       have q102 : x4_1 < (l0_5.length : Int):=of_decide_eq_true (by first | (with_reducible assumption) | assumption)
       obtain ⟨ad102,e102,hx102_0⟩:=Kd.at_string HR0_5.out x4_1 p102 q102
       cases e102
       replace hx102_0:=(HB.out.cell (World.block_lt_of_cell? w _ hx102_0)).trans hx102_0
       replace p102:=eq_true p102
       replace q102:=eq_true q102
       go_wp2
       go_roundg k1
       case measure => have:=HK1.out; omega
       case rel => exact ⟨(wrap64 (x3_1 + (ji11))),(wrap64 (x4_1 + 1)),(by first | rfl | (simp; done) | (simp only [← hji11] <;> (first | rfl | simp)) | (simp [*]; done)),(by first | rfl | (simp; done) | (simp [*]; done)),H',⟨by have:=HK1.out; omega⟩,⟨by (with_reducible repeat (first | refine blk_drewN ?_ _ | refine blk_drew ?_ | refine blk_alloc ?_ _)); exact BK101.out⟩,⟨by repeat (first | (with_reducible first | exact HB.out | apply below_alloc | apply pw_below_drewN | apply below_drew1 | refine below_set ?_ GE101.out) | exact HB.out)⟩⟩
      ·rw [if_neg c10] at H
       exact absurd H (by simp)
     ·rw [if_neg c9] at H
      have c9b0 : decide (x3_1 < 4000) = false:=decide_eq_false c9
      clear c9
      have H':=Aside0.mk H
      clear H
      have hcz13_0 : wr.cell? ⟨gb101,0,none⟩ = some (.int .i64 a0_0):=(blk_cell BK101.out 0).trans rfl
      have hcz13_1 : wr.cell? ⟨gb101,1,none⟩ = some (.string a0_1):=(blk_cell BK101.out 1).trans rfl
      have hcz13_2 : wr.cell? ⟨gb101,2,none⟩ = some (.string a0_2):=(blk_cell BK101.out 2).trans rfl
      have hcz13_3 : wr.cell? ⟨gb101,3,none⟩ = some (.string a0_3):=(blk_cell BK101.out 3).trans rfl
      have hcz13_4 : wr.cell? ⟨gb101,4,none⟩ = some (.int .i64 a0_4):=(blk_cell BK101.out 4).trans rfl
      have hcz13_5 : wr.cell? ⟨gb101,5,none⟩ = some (.slice A0_5 l0_5.length c0_5):=(blk_cell BK101.out 5).trans rfl
      have hcz13_6 : wr.cell? ⟨gb101,6,none⟩ = some (.slice A0_6 l0_6.length c0_6):=(blk_cell BK101.out 6).trans rfl
      have hfz13_0:=blk_frozen BK101.out 0
      have hfz13_1:=blk_frozen BK101.out 1
      have hfz13_2:=blk_frozen BK101.out 2
      have hfz13_3:=blk_frozen BK101.out 3
      have hfz13_4:=blk_frozen BK101.out 4
      have hfz13_5:=blk_frozen BK101.out 5
      have hfz13_6:=blk_frozen BK101.out 6
      go_wp2
      go_meet
      case rel => exact ⟨_,(x3_1),(by first | rfl | (simp; done) | (simp [*]; done)),H',⟨by have:=HK1.out; first | omega | exact Nat.le_refl _⟩,⟨by (with_reducible repeat (first | refine blk_drewN ?_ _ | refine blk_drew ?_ | refine blk_alloc ?_ _)); exact BK101.out⟩,⟨by repeat (first | (with_reducible first | exact HB.out | apply below_alloc | apply pw_below_drewN | apply below_drew1 | refine below_set ?_ GE101.out) | exact HB.out)⟩⟩
    ·rw [if_neg c8] at H
     have c8b0 : decide (x4_1 < (l0_5.length : Int)) = false:=decide_eq_false c8
     clear c8
     (first | rw [c8b0] | (simp only [i64_w,i32_w]; rw [c8b0]) | skip)
     have H':=Aside0.mk H
     clear H
     have hcz14_0 : wr.cell? ⟨gb101,0,none⟩ = some (.int .i64 a0_0):=(blk_cell BK101.out 0).trans rfl
     have hcz14_1 : wr.cell? ⟨gb101,1,none⟩ = some (.string a0_1):=(blk_cell BK101.out 1).trans rfl
     have hcz14_2 : wr.cell? ⟨gb101,2,none⟩ = some (.string a0_2):=(blk_cell BK101.out 2).trans rfl
     have hcz14_3 : wr.cell? ⟨gb101,3,none⟩ = some (.string a0_3):=(blk_cell BK101.out 3).trans rfl
     have hcz14_4 : wr.cell? ⟨gb101,4,none⟩ = some (.int .i64 a0_4):=(blk_cell BK101.out 4).trans rfl
     have hcz14_5 : wr.cell? ⟨gb101,5,none⟩ = some (.slice A0_5 l0_5.length c0_5):=(blk_cell BK101.out 5).trans rfl
     have hcz14_6 : wr.cell? ⟨gb101,6,none⟩ = some (.slice A0_6 l0_6.length c0_6):=(blk_cell BK101.out 6).trans rfl
     have hfz14_0:=blk_frozen BK101.out 0
     have hfz14_1:=blk_frozen BK101.out 1
     have hfz14_2:=blk_frozen BK101.out 2
     have hfz14_3:=blk_frozen BK101.out 3
     have hfz14_4:=blk_frozen BK101.out 4
     have hfz14_5:=blk_frozen BK101.out 5
     have hfz14_6:=blk_frozen BK101.out 6
     go_wp2
     go_meet
     case rel => exact ⟨_,(x3_1),(by first | rfl | (simp; done) | (simp [*]; done)),H',⟨by have:=HK1.out; first | omega | exact Nat.le_refl _⟩,⟨by (with_reducible repeat (first | refine blk_drewN ?_ _ | refine blk_drew ?_ | refine blk_alloc ?_ _)); exact BK101.out⟩,⟨by repeat (first | (with_reducible first | exact HB.out | apply below_alloc | apply pw_below_drewN | apply below_drew1 | refine below_set ?_ GE101.out) | exact HB.out)⟩⟩
 case rest =>
  clear HC5
  try clear c1
  try clear p1
  try clear q1
  try clear hx1
  try clear p2
  try clear p6
  try clear c8
  try clear c8b0
  try clear c9
  try clear c9b0
  try clear c10
  try clear c10b0
  try clear p10
  try clear q10
  try clear hx10
  try clear hcz12_0
  try clear hcz12_1
  try clear hcz12_2
  try clear hcz12_3
  try clear hcz12_4
  try clear hcz12_5
  try clear hcz12_6
  try clear hcz13_0
  try clear hcz13_1
  try clear hcz13_2
  try clear hcz13_3
  try clear hcz13_4
  try clear hcz13_5
  try clear hcz13_6
  try clear hcz14_0
  try clear hcz14_1
  try clear hcz14_2
  try clear hcz14_3
  try clear hcz14_4
  try clear hcz14_5
  try clear hcz14_6
  try clear hcz7_0
  try clear hcz7_1
  try clear hcz7_2
  try clear hcz7_3
  try clear hcz7_4
  try clear hcz7_5
  try clear hcz7_6
  try clear hfz12_0
  try clear hfz12_1
  try clear hfz12_2
  try clear hfz12_3
  try clear hfz12_4
  try clear hfz12_5
  try clear hfz12_6
  try clear hfz13_0
  try clear hfz13_1
  try clear hfz13_2
  try clear hfz13_3
  try clear hfz13_4
  try clear hfz13_5
  try clear hfz13_6
  try clear hfz14_0
  try clear hfz14_1
  try clear hfz14_2
  try clear hfz14_3
  try clear hfz14_4
  try clear hfz14_5
  try clear hfz14_6
  try clear hfz7_0
  try clear hfz7_1
  try clear hfz7_2
  try clear hfz7_3
  try clear hfz7_4
  try clear hfz7_5
  try clear hfz7_6
  try clear hx102_0
  try clear p102
  try clear p2
  try clear p6
  try clear q102
  obtain ⟨kq,x3_4,rfl,HA,HJ4,BK101,HB⟩:=hcut
  cases kq with
  | zero => exact absurd HA.out (by simp [counterpanelaw08_Great.j1])
  | succ kj4 =>
   have H:=HA.out
   clear HA
   simp only [counterpanelaw08_Great.j1] at H
   have H':=Aside0.mk H
   clear H
   go_wp2
   go_loopg [3,5] kj4 (fun kq v3 v5 w' => ∃ (x3_2 : Int) (x5_2 : Int),v3 = .int .i64 x3_2 ∧ v5 = .int .i64 x5_2 ∧ Aside0 (counterpanelaw08_Great.l1 kq x3_2 x5_2 a0_0 a0_1 a0_2 a0_3 a0_4 l0_5 l0_6 = some r) ∧ Aside0 (kq ≤ kj4) ∧ Aside0 (w'.heap[gb101]? = some (.cells #[.int .i64 a0_0,.string a0_1,.string a0_2,.string a0_3,.int .i64 a0_4,(.slice A0_5 l0_5.length c0_5),(.slice A0_6 l0_6.length c0_6)] 24 (0,0))) ∧ Aside0 (Below w.heap.size w w'))
   case atStart => exact ⟨(x3_4),(0),(by first | rfl | (simp; done) | (simp [*]; done)),(by first | rfl | (simp; done) | (simp [*]; done)),H',⟨Nat.le_refl _⟩,⟨by (with_reducible repeat (first | refine blk_drewN ?_ _ | refine blk_drew ?_ | refine blk_alloc ?_ _)); exact BK101.out⟩,⟨by repeat (first | (with_reducible first | exact HB.out | apply below_alloc | apply pw_below_drewN | apply below_drew1 | refine below_set ?_ GE101.out) | exact HB.out)⟩⟩
   case round =>
    clear H'
    try clear c1
    try clear p1
    try clear q1
    try clear hx1
    try clear p2
    try clear p6
    try clear c8
    try clear c8b0
    try clear c9
    try clear c9b0
    try clear c10
    try clear c10b0
    try clear p10
    try clear q10
    try clear hx10
    try clear hcz12_0
    try clear hcz12_1
    try clear hcz12_2
    try clear hcz12_3
    try clear hcz12_4
    try clear hcz12_5
    try clear hcz12_6
    try clear hcz13_0
    try clear hcz13_1
    try clear hcz13_2
    try clear hcz13_3
    try clear hcz13_4
    try clear hcz13_5
    try clear hcz13_6
    try clear hcz14_0
    try clear hcz14_1
    try clear hcz14_2
    try clear hcz14_3
    try clear hcz14_4
    try clear hcz14_5
    try clear hcz14_6
    try clear hcz7_0
    try clear hcz7_1
    try clear hcz7_2
    try clear hcz7_3
    try clear hcz7_4
    try clear hcz7_5
    try clear hcz7_6
    try clear hfz12_0
    try clear hfz12_1
    try clear hfz12_2
    try clear hfz12_3
    try clear hfz12_4
    try clear hfz12_5
    try clear hfz12_6
    try clear hfz13_0
    try clear hfz13_1
    try clear hfz13_2
    try clear hfz13_3
    try clear hfz13_4
    try clear hfz13_5
    try clear hfz13_6
    try clear hfz14_0
    try clear hfz14_1
    try clear hfz14_2
    try clear hfz14_3
    try clear hfz14_4
    try clear hfz14_5
    try clear hfz14_6
    try clear hfz7_0
    try clear hfz7_1
    try clear hfz7_2
    try clear hfz7_3
    try clear hfz7_4
    try clear hfz7_5
    try clear hfz7_6
    try clear hx102_0
    try clear p1
    try clear p10
    try clear p102
    try clear p2
    try clear p6
    try clear q1
    try clear q10
    try clear q102
    obtain ⟨x3_2,x5_2,rfl,rfl,HA,HK2,BK101,HB⟩:=hrel
    cases gk with
    | zero => exact absurd HA.out (by simp [counterpanelaw08_Great.l1])
    | succ k2 =>
     have H:=HA.out
     clear HA
     simp only [counterpanelaw08_Great.l1] at H
     by_cases c15 : x5_2 < (l0_6.length : Int)
     ·rw [if_pos c15] at H
      have c15b0 : decide (x5_2 < (l0_6.length : Int)) = true:=decide_eq_true c15
      clear c15
      by_cases c16 : x3_2 < 4000
      ·rw [if_pos c16] at H
       have c16b0 : decide (x3_2 < 4000) = true:=decide_eq_true c16
       clear c16
       by_cases c17 : 0 ≤ x5_2
       ·rw [if_pos c17] at H
        have c17b0 : decide (0 ≤ x5_2) = true:=decide_eq_true c17
        clear c17
        obtain ⟨ji18,hji18⟩ : ∃ j_ : Int,(mn ((rdOf ByteArray.empty l0_6 x5_2).size : Int) 4000) = j_:=⟨_,rfl⟩
        replace H : (counterpanelaw08_Great.l1 k2 (wrap64 (x3_2 + (ji18))) (wrap64 (x5_2 + 1)) a0_0 a0_1 a0_2 a0_3 a0_4 l0_5 l0_6) = some r:=by first | (rw [hji18] at H; exact H) | (simp only [hji18] at H ⊢; exact H)
        have hji18_ : (if 4000 < ((rdOf ByteArray.empty l0_6 x5_2).size : Int) then 4000 else ((rdOf ByteArray.empty l0_6 x5_2).size : Int)) = ji18:=hji18
        have H':=Aside0.mk H
        clear H
        have hcz19_0 : wr.cell? ⟨gb101,0,none⟩ = some (.int .i64 a0_0):=(blk_cell BK101.out 0).trans rfl
        have hcz19_1 : wr.cell? ⟨gb101,1,none⟩ = some (.string a0_1):=(blk_cell BK101.out 1).trans rfl
        have hcz19_2 : wr.cell? ⟨gb101,2,none⟩ = some (.string a0_2):=(blk_cell BK101.out 2).trans rfl
        have hcz19_3 : wr.cell? ⟨gb101,3,none⟩ = some (.string a0_3):=(blk_cell BK101.out 3).trans rfl
        have hcz19_4 : wr.cell? ⟨gb101,4,none⟩ = some (.int .i64 a0_4):=(blk_cell BK101.out 4).trans rfl
        have hcz19_5 : wr.cell? ⟨gb101,5,none⟩ = some (.slice A0_5 l0_5.length c0_5):=(blk_cell BK101.out 5).trans rfl
        have hcz19_6 : wr.cell? ⟨gb101,6,none⟩ = some (.slice A0_6 l0_6.length c0_6):=(blk_cell BK101.out 6).trans rfl
        have hfz19_0:=blk_frozen BK101.out 0
        have hfz19_1:=blk_frozen BK101.out 1
        have hfz19_2:=blk_frozen BK101.out 2
        have hfz19_3:=blk_frozen BK101.out 3
        have hfz19_4:=blk_frozen BK101.out 4
        have hfz19_5:=blk_frozen BK101.out 5
        have hfz19_6:=blk_frozen BK101.out 6
        have p103 : 0 ≤ (x5_2 : Int):=of_decide_eq_true (by first | (with_reducible assumption) | assumption)
        have q103 : x5_2 < (l0_6.length : Int):=of_decide_eq_true (by first | (with_reducible assumption) | assumption)
        obtain ⟨ad103,e103,hx103_0⟩:=Kd.at_string HR0_6.out x5_2 p103 q103
        cases e103
        replace hx103_0:=(HB.out.cell (World.block_lt_of_cell? w _ hx103_0)).trans hx103_0
        replace p103:=eq_true p103
        replace q103:=eq_true q103
        go_wp2
        go_roundg k2
        case measure => have:=HJ4.out; have:=HK2.out; omega
        case rel => exact ⟨(wrap64 (x3_2 + (ji18))),(wrap64 (x5_2 + 1)),(by first | rfl | (simp; done) | (simp only [← hji18] <;> (first | rfl | simp)) | (simp [*]; done)),(by first | rfl | (simp; done) | (simp [*]; done)),H',⟨by have:=HJ4.out; have:=HK2.out; omega⟩,⟨by (with_reducible repeat (first | refine blk_drewN ?_ _ | refine blk_drew ?_ | refine blk_alloc ?_ _)); exact BK101.out⟩,⟨by repeat (first | (with_reducible first | exact HB.out | apply below_alloc | apply pw_below_drewN | apply below_drew1 | refine below_set ?_ GE101.out) | exact HB.out)⟩⟩
       ·rw [if_neg c17] at H
        exact absurd H (by simp)
      ·rw [if_neg c16] at H
       have c16b0 : decide (x3_2 < 4000) = false:=decide_eq_false c16
       clear c16
       obtain rfl:=Option.some.inj H
       have hcz20_0 : wr.cell? ⟨gb101,0,none⟩ = some (.int .i64 a0_0):=(blk_cell BK101.out 0).trans rfl
       have hcz20_1 : wr.cell? ⟨gb101,1,none⟩ = some (.string a0_1):=(blk_cell BK101.out 1).trans rfl
       have hcz20_2 : wr.cell? ⟨gb101,2,none⟩ = some (.string a0_2):=(blk_cell BK101.out 2).trans rfl
       have hcz20_3 : wr.cell? ⟨gb101,3,none⟩ = some (.string a0_3):=(blk_cell BK101.out 3).trans rfl
       have hcz20_4 : wr.cell? ⟨gb101,4,none⟩ = some (.int .i64 a0_4):=(blk_cell BK101.out 4).trans rfl
       have hcz20_5 : wr.cell? ⟨gb101,5,none⟩ = some (.slice A0_5 l0_5.length c0_5):=(blk_cell BK101.out 5).trans rfl
       have hcz20_6 : wr.cell? ⟨gb101,6,none⟩ = some (.slice A0_6 l0_6.length c0_6):=(blk_cell BK101.out 6).trans rfl
       have hfz20_0:=blk_frozen BK101.out 0
       have hfz20_1:=blk_frozen BK101.out 1
       have hfz20_2:=blk_frozen BK101.out 2
       have hfz20_3:=blk_frozen BK101.out 3
       have hfz20_4:=blk_frozen BK101.out 4
       have hfz20_5:=blk_frozen BK101.out 5
       have hfz20_6:=blk_frozen BK101.out 6
       go_wp2
       go_ret
       exact ⟨by first | rfl | (simp [errW_none,errW_some] <;> rfl) | (simp only [← hji2,← hji3,← hji4]; first | rfl | (simp [errW_none,errW_some] <;> rfl)) | (simp [*,errW_none,errW_some] <;> rfl),by repeat (first | (with_reducible first | exact HB.out | apply below_alloc | apply pw_below_drewN | apply below_drew1 | refine below_set ?_ GE101.out) | exact HB.out)⟩
     ·rw [if_neg c15] at H
      have c15b0 : decide (x5_2 < (l0_6.length : Int)) = false:=decide_eq_false c15
      clear c15
      obtain rfl:=Option.some.inj H
      have hcz21_0 : wr.cell? ⟨gb101,0,none⟩ = some (.int .i64 a0_0):=(blk_cell BK101.out 0).trans rfl
      have hcz21_1 : wr.cell? ⟨gb101,1,none⟩ = some (.string a0_1):=(blk_cell BK101.out 1).trans rfl
      have hcz21_2 : wr.cell? ⟨gb101,2,none⟩ = some (.string a0_2):=(blk_cell BK101.out 2).trans rfl
      have hcz21_3 : wr.cell? ⟨gb101,3,none⟩ = some (.string a0_3):=(blk_cell BK101.out 3).trans rfl
      have hcz21_4 : wr.cell? ⟨gb101,4,none⟩ = some (.int .i64 a0_4):=(blk_cell BK101.out 4).trans rfl
      have hcz21_5 : wr.cell? ⟨gb101,5,none⟩ = some (.slice A0_5 l0_5.length c0_5):=(blk_cell BK101.out 5).trans rfl
      have hcz21_6 : wr.cell? ⟨gb101,6,none⟩ = some (.slice A0_6 l0_6.length c0_6):=(blk_cell BK101.out 6).trans rfl
      have hfz21_0:=blk_frozen BK101.out 0
      have hfz21_1:=blk_frozen BK101.out 1
      have hfz21_2:=blk_frozen BK101.out 2
      have hfz21_3:=blk_frozen BK101.out 3
      have hfz21_4:=blk_frozen BK101.out 4
      have hfz21_5:=blk_frozen BK101.out 5
      have hfz21_6:=blk_frozen BK101.out 6
      go_wp2
      go_ret
      exact ⟨by first | rfl | (simp [errW_none,errW_some] <;> rfl) | (simp only [← hji2,← hji3,← hji4]; first | rfl | (simp [errW_none,errW_some] <;> rfl)) | (simp [*,errW_none,errW_some] <;> rfl),by repeat (first | (with_reducible first | exact HB.out | apply below_alloc | apply pw_below_drewN | apply below_drew1 | refine below_set ?_ GE101.out) | exact HB.out)⟩

/-! ### counterpanelaw08_GreatList: function 17 -/
def counterpanelaw08_GreatList.l0 : Nat → List (S24) → Int → Option (Bool)
 | 0,_,_ => none
 | k + 1,x0,x3 => if x3 < (x0.length : Int) then (if 0 ≤ x3 then ((counterpanelaw08_Great.f k ((rd_T24 x0 x3).f0) ((rd_T24 x0 x3).f1) ((rd_T24 x0 x3).f2) ((rd_T24 x0 x3).f3) ((rd_T24 x0 x3).f4) ((rd_T24 x0 x3).f5) ((rd_T24 x0 x3).f6)).bind fun t105 => (if t105 = true then (some true) else (counterpanelaw08_GreatList.l0 k x0 (wrap64 (x3 + 1))))) else (none)) else (some false)
def counterpanelaw08_GreatList.f (k : Nat) (l0 : List (S24)) : Option (Bool):=if (l0.length : Int) > 60 then (some true) else (counterpanelaw08_GreatList.l0 k l0 0)
theorem counterpanelaw08_GreatList.mono_l : ∀ k,(∀ y0 y1,LeO (counterpanelaw08_GreatList.l0 k y0 y1) (counterpanelaw08_GreatList.l0 (k + 1) y0 y1))
 | 0 => fun _ _ r h => by simp [counterpanelaw08_GreatList.l0] at h
 | k + 1 => by
  have ih0:=counterpanelaw08_GreatList.mono_l k
  ·intro y0 y1
   unfold counterpanelaw08_GreatList.l0
   repeat' first
   | (with_reducible exact ih0 _ _)
   | (with_reducible exact counterpanelaw08_Great.mono _ _ _ _ _ _ _ _)
   | (with_reducible exact LeO.refl _)
   | (with_reducible exact LeO.none _)
   | (with_reducible refine LeO.ite ?_ ?_)
   | (with_reducible refine LeO.bind ?_ (fun _ => ?_))
   | exact ih0 _ _
   | exact counterpanelaw08_Great.mono _ _ _ _ _ _ _ _
   | exact LeO.none _
   | refine LeO.ite ?_ ?_
   | refine LeO.bind ?_ (fun _ => ?_)
theorem counterpanelaw08_GreatList.mono : ∀ a0 k,LeO (counterpanelaw08_GreatList.f k a0) (counterpanelaw08_GreatList.f (k + 1) a0):=by
 intro a0 k
 have ih0:=counterpanelaw08_GreatList.mono_l k
 unfold counterpanelaw08_GreatList.f
 repeat' first
   | (with_reducible exact ih0 _ _)
   | (with_reducible exact counterpanelaw08_Great.mono _ _ _ _ _ _ _ _)
   | (with_reducible exact LeO.refl _)
   | (with_reducible exact LeO.none _)
   | (with_reducible refine LeO.ite ?_ ?_)
   | (with_reducible refine LeO.bind ?_ (fun _ => ?_))
   | exact ih0 _ _
   | exact counterpanelaw08_Great.mono _ _ _ _ _ _ _ _
   | exact LeO.none _
   | refine LeO.ite ?_ ?_
   | refine LeO.bind ?_ (fun _ => ?_)
set_option maxHeartbeats 8000000 in
set_option maxRecDepth 100000 in
theorem counterpanelaw08_GreatList.calls (k : Nat) (A0 : Option Addr) (c0 : Nat) (l0 : List (S24)) (r : Bool) (w : World) (hr0 : Kd.C k24 w A0 l0.length l0) (hc0 : l0.length ≤ c0) (h : counterpanelaw08_GreatList.f k l0 = some r) :
  Calls Tryd.prog 17 #[.slice A0 l0.length c0] w fun e w' => e = .returned (.bool r) ∧ Below w.heap.size w w':=by
 have hu24:=Tryd.underlying24
 have HR0:=Aside0.mk hr0
 have HC0:=Aside0.mk hc0
 clear hr0 hc0
 have HB:=Aside0.mk (Below.refl w.heap.size w)
 have H : (if (l0.length : Int) > 60 then (some true) else (counterpanelaw08_GreatList.l0 k l0 0)) = some r:=h
 clear h
 by_cases c2 : (l0.length : Int) > 60
 ·rw [if_pos c2] at H
  have c2b0 : decide (60 < (l0.length : Int)) = true:=decide_eq_true c2
  have c2b1 : decide (60 < l0.length) = true:=decide_eq_true (by omega)
  clear c2
  obtain rfl:=Option.some.inj H
  go_enter Tryd.func17,Tryd.ntmps17
  go_wp2
  go_ret
  exact ⟨by first | rfl | (simp [errW_none,errW_some] <;> rfl) | (simp [*,errW_none,errW_some] <;> rfl),by repeat (first | (with_reducible first | exact HB.out | apply below_alloc | apply pw_below_drewN | apply below_drew1) | exact HB.out)⟩
 ·rw [if_neg c2] at H
  have c2b0 : decide (60 < (l0.length : Int)) = false:=decide_eq_false c2
  have c2b1 : decide (60 < l0.length) = false:=decide_eq_false (by omega)
  clear c2
  have H':=Aside0.mk H
  clear H
  go_enter Tryd.func17,Tryd.ntmps17
  go_wp2
  go_loopg [3] k (fun kq v3 w' => ∃ (x3_1 : Int),v3 = .int .i64 x3_1 ∧ Aside0 (counterpanelaw08_GreatList.l0 kq l0 x3_1 = some r) ∧ Aside0 (kq ≤ k) ∧ Aside0 (Below w.heap.size w w'))
  case atStart => exact ⟨(0),(by first | rfl | (simp; done) | (simp [*]; done)),H',⟨Nat.le_refl _⟩,⟨by repeat (first | (with_reducible first | exact HB.out | apply below_alloc | apply pw_below_drewN | apply below_drew1) | exact HB.out)⟩⟩
  case round =>
   clear H'
   try clear c1
   try clear c2
   try clear c2b0
   try clear c2b1
   try clear p2
   obtain ⟨x3_1,rfl,HA,HK1,HB⟩:=hrel
   cases gk with
   | zero => exact absurd HA.out (by simp [counterpanelaw08_GreatList.l0])
   | succ k1 =>
    have H:=HA.out
    clear HA
    simp only [counterpanelaw08_GreatList.l0] at H
    by_cases c3 : x3_1 < (l0.length : Int)
    ·rw [if_pos c3] at H
     have c3b0 : decide (x3_1 < (l0.length : Int)) = true:=decide_eq_true c3
     clear c3
     by_cases c4 : 0 ≤ x3_1
     ·rw [if_pos c4] at H
      have c4b0 : decide (0 ≤ x3_1) = true:=decide_eq_true c4
      clear c4
      replace H:=Option.bind_eq_some_iff.mp H
      obtain ⟨t105,A50,H⟩:=H
      replace H : (if t105 = true then (some true) else (counterpanelaw08_GreatList.l0 k1 l0 (wrap64 (x3_1 + 1)))) = some r:=H
      have A5:=Aside0.mk A50
      clear A50
      by_cases c6 : t105 = true
      ·subst c6
       have H1 : (some true) = some r:=by rw [if_pos rfl] at H; exact H
       clear H
       have H:=H1
       clear H1
       obtain rfl:=Option.some.inj H
       have p104 : 0 ≤ (x3_1 : Int):=of_decide_eq_true (by first | (with_reducible assumption) | assumption)
       have q104 : x3_1 < (l0.length : Int):=of_decide_eq_true (by first | (with_reducible assumption) | assumption)
       obtain ⟨ad104,A104_5,c104_5,A104_6,c104_6,e104,hx104_0,hx104_1,hx104_2,hx104_3,hx104_4,hx104_5,hx104_6,hl104_5,hi104_5,hl104_6,hi104_6⟩:=at_T24 HR0.out x3_1 p104 q104
       cases e104
       replace hx104_0:=(HB.out.cell (World.block_lt_of_cell? w _ hx104_0)).trans hx104_0
       replace hx104_1:=(HB.out.cell (World.block_lt_of_cell? w _ hx104_1)).trans hx104_1
       replace hx104_2:=(HB.out.cell (World.block_lt_of_cell? w _ hx104_2)).trans hx104_2
       replace hx104_3:=(HB.out.cell (World.block_lt_of_cell? w _ hx104_3)).trans hx104_3
       replace hx104_4:=(HB.out.cell (World.block_lt_of_cell? w _ hx104_4)).trans hx104_4
       replace hx104_5:=(HB.out.cell (World.block_lt_of_cell? w _ hx104_5)).trans hx104_5
       replace hx104_6:=(HB.out.cell (World.block_lt_of_cell? w _ hx104_6)).trans hx104_6
       have HR104_5:=Aside0.mk hi104_5
       have HC104_5:=Aside0.mk hl104_5
       clear hi104_5 hl104_5
       have HR104_6:=Aside0.mk hi104_6
       have HC104_6:=Aside0.mk hl104_6
       clear hi104_6 hl104_6
       replace p104:=eq_true p104
       replace q104:=eq_true q104
       go_wp2_with (first | ((with_reducible refine gate_callee (f:=16) rfl ?_); refine goesL_ (some 17) rfl rfl Tryd.func16 (by kernel_rfl) rfl #[.agg #[.int .i64 ((rd_T24 l0 x3_1).f0),.string ((rd_T24 l0 x3_1).f1),.string ((rd_T24 l0 x3_1).f2),.string ((rd_T24 l0 x3_1).f3),.int .i64 ((rd_T24 l0 x3_1).f4),.slice A104_5 ((rd_T24 l0 x3_1).f5).length c104_5,.slice A104_6 ((rd_T24 l0 x3_1).f6).length c104_6]] rfl (by (try simp only [List.map_toArray,List.map_cons,List.map_nil]); first | done | rfl | (simp only [List.length_drop,List.length_take]; rfl)) ?_; (with_reducible refine (counterpanelaw08_Great.calls k1 ((rd_T24 l0 x3_1).f0) ((rd_T24 l0 x3_1).f1) ((rd_T24 l0 x3_1).f2) ((rd_T24 l0 x3_1).f3) ((rd_T24 l0 x3_1).f4) _ _ ((rd_T24 l0 x3_1).f5) _ _ ((rd_T24 l0 x3_1).f6) true _ ?side1 ?side2 ?side3 ?side4 A5.out).mono ?_); (case side1 => repeat (first | exact (Kd.C_below HR104_5.out HB.out) | (with_reducible refine Kd.C_alloc ?_ _) | (with_reducible refine Kd.C_drewN ?_ _) | (with_reducible refine Kd.C_drew ?_))); (case side2 => exact HC104_5.out); (case side3 => repeat (first | exact (Kd.C_below HR104_6.out HB.out) | (with_reducible refine Kd.C_alloc ?_ _) | (with_reducible refine Kd.C_drewN ?_ _) | (with_reducible refine Kd.C_drew ?_))); (case side4 => exact HC104_6.out); rintro e w7 ⟨rfl,hb⟩; refine ⟨_,rfl,?_⟩; have n0_:=Aside0.mk (below_step (by repeat (first | (with_reducible first | exact HB.out | apply below_alloc | apply pw_below_drewN | apply below_drew1) | exact HB.out)) hb); clear HB; have HB:=n0_; clear n0_; (try clear hb); (try clear hb2); (try clear hk); (try clear hi)))
       go_ret
       exact ⟨by first | rfl | (simp [errW_none,errW_some] <;> rfl) | (simp [*,errW_none,errW_some] <;> rfl),by repeat (first | (with_reducible first | exact HB.out | apply below_alloc | apply pw_below_drewN | apply below_drew1) | exact HB.out)⟩
      ·replace c6:=Bool.eq_false_iff.mpr c6
       subst c6
       have H1 : (counterpanelaw08_GreatList.l0 k1 l0 (wrap64 (x3_1 + 1))) = some r:=by rw [if_neg (show ¬ (false = true) by decide)] at H; exact H
       clear H
       have H:=H1
       clear H1
       have H':=Aside0.mk H
       clear H
       have p104 : 0 ≤ (x3_1 : Int):=of_decide_eq_true (by first | (with_reducible assumption) | assumption)
       have q104 : x3_1 < (l0.length : Int):=of_decide_eq_true (by first | (with_reducible assumption) | assumption)
       obtain ⟨ad104,A104_5,c104_5,A104_6,c104_6,e104,hx104_0,hx104_1,hx104_2,hx104_3,hx104_4,hx104_5,hx104_6,hl104_5,hi104_5,hl104_6,hi104_6⟩:=at_T24 HR0.out x3_1 p104 q104
       cases e104
       replace hx104_0:=(HB.out.cell (World.block_lt_of_cell? w _ hx104_0)).trans hx104_0
       replace hx104_1:=(HB.out.cell (World.block_lt_of_cell? w _ hx104_1)).trans hx104_1
       replace hx104_2:=(HB.out.cell (World.block_lt_of_cell? w _ hx104_2)).trans hx104_2
       replace hx104_3:=(HB.out.cell (World.block_lt_of_cell? w _ hx104_3)).trans hx104_3
       replace hx104_4:=(HB.out.cell (World.block_lt_of_cell? w _ hx104_4)).trans hx104_4
       replace hx104_5:=(HB.out.cell (World.block_lt_of_cell? w _ hx104_5)).trans hx104_5
       replace hx104_6:=(HB.out.cell (World.block_lt_of_cell? w _ hx104_6)).trans hx104_6
       have HR104_5:=Aside0.mk hi104_5
       have HC104_5:=Aside0.mk hl104_5
       clear hi104_5 hl104_5
       have HR104_6:=Aside0.mk hi104_6
       have HC104_6:=Aside0.mk hl104_6
       clear hi104_6 hl104_6
       replace p104:=eq_true p104
       replace q104:=eq_true q104
       go_wp2_with (first | ((with_reducible refine gate_callee (f:=16) rfl ?_); refine goesL_ (some 17) rfl rfl Tryd.func16 (by kernel_rfl) rfl #[.agg #[.int .i64 ((rd_T24 l0 x3_1).f0),.string ((rd_T24 l0 x3_1).f1),.string ((rd_T24 l0 x3_1).f2),.string ((rd_T24 l0 x3_1).f3),.int .i64 ((rd_T24 l0 x3_1).f4),.slice A104_5 ((rd_T24 l0 x3_1).f5).length c104_5,.slice A104_6 ((rd_T24 l0 x3_1).f6).length c104_6]] rfl (by (try simp only [List.map_toArray,List.map_cons,List.map_nil]); first | done | rfl | (simp only [List.length_drop,List.length_take]; rfl)) ?_; (with_reducible refine (counterpanelaw08_Great.calls k1 ((rd_T24 l0 x3_1).f0) ((rd_T24 l0 x3_1).f1) ((rd_T24 l0 x3_1).f2) ((rd_T24 l0 x3_1).f3) ((rd_T24 l0 x3_1).f4) _ _ ((rd_T24 l0 x3_1).f5) _ _ ((rd_T24 l0 x3_1).f6) false _ ?side1 ?side2 ?side3 ?side4 A5.out).mono ?_); (case side1 => repeat (first | exact (Kd.C_below HR104_5.out HB.out) | (with_reducible refine Kd.C_alloc ?_ _) | (with_reducible refine Kd.C_drewN ?_ _) | (with_reducible refine Kd.C_drew ?_))); (case side2 => exact HC104_5.out); (case side3 => repeat (first | exact (Kd.C_below HR104_6.out HB.out) | (with_reducible refine Kd.C_alloc ?_ _) | (with_reducible refine Kd.C_drewN ?_ _) | (with_reducible refine Kd.C_drew ?_))); (case side4 => exact HC104_6.out); rintro e w8 ⟨rfl,hb⟩; refine ⟨_,rfl,?_⟩; have n0_:=Aside0.mk (below_step (by repeat (first | (with_reducible first | exact HB.out | apply below_alloc | apply pw_below_drewN | apply below_drew1) | exact HB.out)) hb); clear HB; have HB:=n0_; clear n0_; (try clear hb); (try clear hb2); (try clear hk); (try clear hi)))
       go_roundg k1
       case measure => have:=HK1.out; omega
       case rel => exact ⟨(wrap64 (x3_1 + 1)),(by first | rfl | (simp; done) | (simp [*]; done)),H',⟨by have:=HK1.out; omega⟩,⟨by repeat (first | (with_reducible first | exact HB.out | apply below_alloc | apply pw_below_drewN | apply below_drew1) | exact HB.out)⟩⟩
     ·rw [if_neg c4] at H
      exact absurd H (by simp)
    ·rw [if_neg c3] at H
     have c3b0 : decide (x3_1 < (l0.length : Int)) = false:=decide_eq_false c3
     clear c3
     obtain rfl:=Option.some.inj H
     go_wp2
     go_ret
     exact ⟨by first | rfl | (simp [errW_none,errW_some] <;> rfl) | (simp [*,errW_none,errW_some] <;> rfl),by repeat (first | (with_reducible first | exact HB.out | apply below_alloc | apply pw_below_drewN | apply below_drew1) | exact HB.out)⟩

-- NOT PRINTED: function 99 (strings_splitSeq)

-- NOT PRINTED: function 76 (strings_SplitSeq)

-- NOT PRINTED: function 127 (strings_indexFunc)

-- NOT PRINTED: function 119 (strings_IndexFunc)

-- NOT PRINTED: function 100 (strings_ContainsFunc)

-- NOT PRINTED: function 77 (path_part)

/-! ### lines_in: function 78 -/
def lines_in.f (a0 : Int) : Option (Bool):=if a0 = 95 then (some true) else (if 97 ≤ (Go.bits .or .u8 a0 32) then (if (Go.bits .or .u8 a0 32) ≤ 122 then (some true) else (if 48 ≤ a0 then (some (decide (a0 ≤ 57))) else (some false))) else (if 48 ≤ a0 then (some (decide (a0 ≤ 57))) else (some false)))
set_option maxHeartbeats 8000000 in
set_option maxRecDepth 100000 in
theorem lines_in.calls (a0 : Int) (r : Bool) (w : World) (h : lines_in.f a0 = some r) :
  Calls Tryd.prog 78 #[.int .u8 a0] w fun e w' => e = .returned (.bool r) ∧ Drawn0 w w':=by
 have H : (if a0 = 95 then (some true) else (if 97 ≤ (Go.bits .or .u8 a0 32) then (if (Go.bits .or .u8 a0 32) ≤ 122 then (some true) else (if 48 ≤ a0 then (some (decide (a0 ≤ 57))) else (some false))) else (if 48 ≤ a0 then (some (decide (a0 ≤ 57))) else (some false)))) = some r:=h
 clear h
 by_cases c2 : a0 = 95
 ·rw [if_pos c2] at H
  have c2b0 : (a0 == 95) = true:=beq_iff_eq.mpr c2
  have c2b1 : (a0 != 95) = false:=bne_eq_false_iff_eq.mpr c2
  clear c2
  obtain rfl:=Option.some.inj H
  go_enter Tryd.func78,Tryd.ntmps78
  go_wp2
  go_ret
  exact ⟨by first | rfl | (simp; done) | (simp [*]; done) | (simp [show ∀ l : List UInt8,(l != []) = !l.isEmpty from fun l => by cases l <;> rfl]; done),by repeat (first | exact Drawn0.refl _ | apply Drawn0.step)⟩
 ·rw [if_neg c2] at H
  have c2b0 : (a0 == 95) = false:=beq_eq_false_iff_ne.mpr c2
  have c2b1 : (a0 != 95) = true:=bne_iff_ne.mpr c2
  by_cases c3 : 97 ≤ (Go.bits .or .u8 a0 32)
  ·rw [if_pos c3] at H
   have c3b0 : decide (97 ≤ (Go.bits .or .u8 a0 32)) = true:=decide_eq_true c3
   clear c3
   by_cases c4 : (Go.bits .or .u8 a0 32) ≤ 122
   ·rw [if_pos c4] at H
    have c4b0 : decide ((Go.bits .or .u8 a0 32) ≤ 122) = true:=decide_eq_true c4
    clear c4
    obtain rfl:=Option.some.inj H
    go_enter Tryd.func78,Tryd.ntmps78
    go_wp2
    go_ret
    exact ⟨by first | rfl | (simp; done) | (simp [*]; done) | (simp [show ∀ l : List UInt8,(l != []) = !l.isEmpty from fun l => by cases l <;> rfl]; done),by repeat (first | exact Drawn0.refl _ | apply Drawn0.step)⟩
   ·rw [if_neg c4] at H
    have c4b0 : decide ((Go.bits .or .u8 a0 32) ≤ 122) = false:=decide_eq_false c4
    clear c4
    by_cases c5 : 48 ≤ a0
    ·rw [if_pos c5] at H
     have c5b0 : decide (48 ≤ a0) = true:=decide_eq_true c5
     clear c5
     obtain rfl:=Option.some.inj H
     go_enter Tryd.func78,Tryd.ntmps78
     go_wp2
     go_ret
     exact ⟨by first | rfl | (simp; done) | (simp [*]; done) | (simp [show ∀ l : List UInt8,(l != []) = !l.isEmpty from fun l => by cases l <;> rfl]; done),by repeat (first | exact Drawn0.refl _ | apply Drawn0.step)⟩
    ·rw [if_neg c5] at H
     have c5b0 : decide (48 ≤ a0) = false:=decide_eq_false c5
     clear c5
     obtain rfl:=Option.some.inj H
     go_enter Tryd.func78,Tryd.ntmps78
     go_wp2
     go_ret
     exact ⟨by first | rfl | (simp; done) | (simp [*]; done) | (simp [show ∀ l : List UInt8,(l != []) = !l.isEmpty from fun l => by cases l <;> rfl]; done),by repeat (first | exact Drawn0.refl _ | apply Drawn0.step)⟩
  ·rw [if_neg c3] at H
   have c3b0 : decide (97 ≤ (Go.bits .or .u8 a0 32)) = false:=decide_eq_false c3
   clear c3
   by_cases c6 : 48 ≤ a0
   ·rw [if_pos c6] at H
    have c6b0 : decide (48 ≤ a0) = true:=decide_eq_true c6
    clear c6
    obtain rfl:=Option.some.inj H
    go_enter Tryd.func78,Tryd.ntmps78
    go_wp2
    go_ret
    exact ⟨by first | rfl | (simp; done) | (simp [*]; done) | (simp [show ∀ l : List UInt8,(l != []) = !l.isEmpty from fun l => by cases l <;> rfl]; done),by repeat (first | exact Drawn0.refl _ | apply Drawn0.step)⟩
   ·rw [if_neg c6] at H
    have c6b0 : decide (48 ≤ a0) = false:=decide_eq_false c6
    clear c6
    obtain rfl:=Option.some.inj H
    go_enter Tryd.func78,Tryd.ntmps78
    go_wp2
    go_ret
    exact ⟨by first | rfl | (simp; done) | (simp [*]; done) | (simp [show ∀ l : List UInt8,(l != []) = !l.isEmpty from fun l => by cases l <;> rfl]; done),by repeat (first | exact Drawn0.refl _ | apply Drawn0.step)⟩

/-! ### lines_Token: function 47 -/
def lines_Token.l0 : Nat → ByteArray → Int → Int → Option (Bool)
 | 0,_,_,_ => none
 | k + 1,x0,x5,x6 => if x6 < x5 then (if 0 ≤ x6 then (if x6 < (x0.size : Int) then ((lines_in.f (bt x0 x6)).bind fun t106 => (if t106 = true then (lines_Token.l0 k x0 x5 (wrap64 (x6 + 1))) else (some false))) else (none)) else (none)) else (some (x0.toList != ([] : List UInt8)))
def lines_Token.f (k : Nat) (a0 : ByteArray) : Option (Bool):=lines_Token.l0 k a0 (a0.size : Int) 0
theorem lines_Token.mono_l : ∀ k,(∀ y0 y1 y2,LeO (lines_Token.l0 k y0 y1 y2) (lines_Token.l0 (k + 1) y0 y1 y2))
 | 0 => fun _ _ _ r h => by simp [lines_Token.l0] at h
 | k + 1 => by
  have ih0:=lines_Token.mono_l k
  ·intro y0 y1 y2
   unfold lines_Token.l0
   repeat' first
   | (with_reducible exact ih0 _ _ _)
   | (with_reducible exact LeO.refl _)
   | (with_reducible exact LeO.none _)
   | (with_reducible refine LeO.ite ?_ ?_)
   | (with_reducible refine LeO.bind ?_ (fun _ => ?_))
   | exact ih0 _ _ _
   | exact LeO.none _
   | refine LeO.ite ?_ ?_
   | refine LeO.bind ?_ (fun _ => ?_)
theorem lines_Token.mono : ∀ a0 k,LeO (lines_Token.f k a0) (lines_Token.f (k + 1) a0):=by
 intro a0 k
 have ih0:=lines_Token.mono_l k
 unfold lines_Token.f
 repeat' first
   | (with_reducible exact ih0 _ _ _)
   | (with_reducible exact LeO.refl _)
   | (with_reducible exact LeO.none _)
   | (with_reducible refine LeO.ite ?_ ?_)
   | (with_reducible refine LeO.bind ?_ (fun _ => ?_))
   | exact ih0 _ _ _
   | exact LeO.none _
   | refine LeO.ite ?_ ?_
   | refine LeO.bind ?_ (fun _ => ?_)
set_option maxHeartbeats 8000000 in
set_option maxRecDepth 100000 in
theorem lines_Token.calls (k : Nat) (a0 : ByteArray) (r : Bool) (w : World) (h : lines_Token.f k a0 = some r) :
  Calls Tryd.prog 47 #[.string a0] w fun e w' => e = .returned (.bool r) ∧ Drawn0 w w':=by
 have H : (lines_Token.l0 k a0 (a0.size : Int) 0) = some r:=h
 clear h
 have H':=Aside0.mk H
 clear H
 go_enter Tryd.func47,Tryd.ntmps47
 go_wp2
 go_loopg [6] k (fun kq v6 w' => ∃ (x6_1 : Int),v6 = .int .i64 x6_1 ∧ Aside0 (lines_Token.l0 kq a0 (a0.size : Int) x6_1 = some r) ∧ Aside0 (kq ≤ k) ∧ Drawn0 w w')
 case atStart => exact ⟨(0),(by first | rfl | (simp; done) | (simp [*]; done)),H',⟨Nat.le_refl _⟩,by repeat (first | exact Drawn0.refl _ | apply Drawn0.step)⟩
 case round =>
  clear H'
  obtain ⟨x6_1,rfl,HA,HK1,⟨m1,rfl⟩⟩:=hrel
  cases gk with
  | zero => exact absurd HA.out (by simp [lines_Token.l0])
  | succ k1 =>
   have H:=HA.out
   clear HA
   simp only [lines_Token.l0] at H
   by_cases c2 : x6_1 < (a0.size : Int)
   ·rw [if_pos c2] at H
    have c2b0 : decide (x6_1 < (a0.size : Int)) = true:=decide_eq_true c2
    clear c2
    by_cases c3 : 0 ≤ x6_1
    ·rw [if_pos c3] at H
     have c3b0 : decide (0 ≤ x6_1) = true:=decide_eq_true c3
     clear c3
     by_cases c4 : x6_1 < (a0.size : Int)
     ·rw [if_pos c4] at H
      have c4b0 : decide (x6_1 < (a0.size : Int)) = true:=decide_eq_true c4
      clear c4
      replace H:=Option.bind_eq_some_iff.mp H
      obtain ⟨t106,A60,H⟩:=H
      replace H : (if t106 = true then (lines_Token.l0 k1 a0 (a0.size : Int) (wrap64 (x6_1 + 1))) else (some false)) = some r:=H
      have A6:=Aside0.mk A60
      clear A60
      by_cases c7 : t106 = true
      ·subst c7
       have H1 : (lines_Token.l0 k1 a0 (a0.size : Int) (wrap64 (x6_1 + 1))) = some r:=by rw [if_pos rfl] at H; exact H
       clear H
       have H:=H1
       clear H1
       have H':=Aside0.mk H
       clear H
       have p5 : 0 ≤ (x6_1 : Int):=of_decide_eq_true (by first | (with_reducible assumption) | assumption)
       have q5 : x6_1 < (a0.size : Int):=of_decide_eq_true (by first | (with_reducible assumption) | assumption)
       have hx5:=bt_at a0 x6_1
       replace p5:=eq_true p5
       replace q5:=eq_true q5
       go_wp2_with (first | ((with_reducible refine gate_callee (f:=78) rfl ?_); refine goesL_ (some 12) rfl rfl Tryd.func78 (by kernel_rfl) rfl #[.int .u8 (bt a0 x6_1)] rfl (by (try simp only [List.map_toArray,List.map_cons,List.map_nil]); first | done | rfl | (simp only [List.length_drop,List.length_take]; rfl)) ?_; (with_reducible refine (lines_in.calls (bt a0 x6_1) true _ A6.out).mono ?_); rintro e w' ⟨rfl,⟨nd,rfl⟩⟩; refine ⟨_,rfl,?_⟩))
       go_roundg k1
       case measure => have:=HK1.out; omega
       case rel => exact ⟨(wrap64 (x6_1 + 1)),(by first | rfl | (simp; done) | (simp [*]; done)),H',⟨by have:=HK1.out; omega⟩,by repeat (first | exact Drawn0.refl _ | apply Drawn0.step)⟩
      ·replace c7:=Bool.eq_false_iff.mpr c7
       subst c7
       have H1 : (some false) = some r:=by rw [if_neg (show ¬ (false = true) by decide)] at H; exact H
       clear H
       have H:=H1
       clear H1
       obtain rfl:=Option.some.inj H
       have p5 : 0 ≤ (x6_1 : Int):=of_decide_eq_true (by first | (with_reducible assumption) | assumption)
       have q5 : x6_1 < (a0.size : Int):=of_decide_eq_true (by first | (with_reducible assumption) | assumption)
       have hx5:=bt_at a0 x6_1
       replace p5:=eq_true p5
       replace q5:=eq_true q5
       go_wp2_with (first | ((with_reducible refine gate_callee (f:=78) rfl ?_); refine goesL_ (some 12) rfl rfl Tryd.func78 (by kernel_rfl) rfl #[.int .u8 (bt a0 x6_1)] rfl (by (try simp only [List.map_toArray,List.map_cons,List.map_nil]); first | done | rfl | (simp only [List.length_drop,List.length_take]; rfl)) ?_; (with_reducible refine (lines_in.calls (bt a0 x6_1) false _ A6.out).mono ?_); rintro e w' ⟨rfl,⟨nd,rfl⟩⟩; refine ⟨_,rfl,?_⟩))
       go_ret
       exact ⟨by first | rfl | (simp; done) | (simp [*]; done) | (simp [show ∀ l : List UInt8,(l != []) = !l.isEmpty from fun l => by cases l <;> rfl]; done),by repeat (first | exact Drawn0.refl _ | apply Drawn0.step)⟩
     ·rw [if_neg c4] at H
      exact absurd H (by simp)
    ·rw [if_neg c3] at H
     exact absurd H (by simp)
   ·rw [if_neg c2] at H
    have c2b0 : decide (x6_1 < (a0.size : Int)) = false:=decide_eq_false c2
    clear c2
    obtain rfl:=Option.some.inj H
    go_wp2
    go_ret
    exact ⟨by first | rfl | (simp; done) | (simp [*]; done) | (simp [show ∀ l : List UInt8,(l != []) = !l.isEmpty from fun l => by cases l <;> rfl]; done),by repeat (first | exact Drawn0.refl _ | apply Drawn0.step)⟩

end Go.Proofs.YthhohbidjhcjeaaDoor.Q
