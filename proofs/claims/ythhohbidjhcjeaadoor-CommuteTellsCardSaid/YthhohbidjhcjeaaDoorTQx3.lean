/- Printed by a program of this place out of the translation: what the functions compute, and their contracts. -/
import Derived.Test.YthhohbidjhcjeaaDoorTQx0
import Derived.Test.YthhohbidjhcjeaaDoorTQx1
import Derived.Test.YthhohbidjhcjeaaDoorTQx2
import Derived.Test.YthhohbidjhcjeaaDoorTSs
namespace Go.Proofs.YthhohbidjhcjeaaDoor.Q
open Go.RowKit Go.Proofs.YthhohbidjhcjeaaDoorW.PrintWords Go.Proofs.YthhohbidjhcjeaaDoorW.PrintLast Go.Proofs.YthhohbidjhcjeaaDoorW.PrintMore
attribute [local go_sem] max2_int min2_int max_two min_two max_three min_three max_four min_four   -- for this text's walks alone
set_option linter.unusedVariables false
set_option linter.unusedSimpArgs false

/-! ### prim_Right: function 19 -/
mutual
def prim_Right.j0 : Nat → Bool → Int → ByteArray → ByteArray → ByteArray → Int → List ByteArray → List ByteArray → Option (Bool)
 | 0,_,_,_,_,_,_,_,_ => none
 | k + 1,x3,x115000,x115001,x115002,x115003,x115004,x115005,x115006 => (path_Right.f x115001).bind fun t115 => (if t115 = true then (if x3 = true then (prim_Right.j1 k (x115000 != 7) x115000 x115001 x115002 x115003 x115004 x115005 x115006) else (prim_Right.j1 k false x115000 x115001 x115002 x115003 x115004 x115005 x115006)) else (prim_Right.j1 k (!t115) x115000 x115001 x115002 x115003 x115004 x115005 x115006))
def prim_Right.j1 : Nat → Bool → Int → ByteArray → ByteArray → ByteArray → Int → List ByteArray → List ByteArray → Option (Bool)
 | 0,_,_,_,_,_,_,_,_ => none
 | k + 1,x17,x115000,x115001,x115002,x115003,x115004,x115005,x115006 => if x17 = true then (some false) else (if x115000 = 8 then ((lines_Token.f k x115003).bind fun t116 => (if t116 = true then ((lines_Token.f k x115002).bind fun t117 => (if t117 = true then (some (x115003.toList != x115002.toList)) else (some false))) else (some false))) else (if x115000 = 9 then (some (x115003.toList != x115002.toList)) else (if x115003.toList = ([] : List UInt8) then (if x115000 = 10 then ((path_Right.f x115002).bind fun t118 => (if t118 = true then ((path_Apart.f x115001 x115002).bind fun t119 => (some t119)) else (some false))) else (if x115000 = 7 then (if x115002.toList = ([] : List UInt8) then (if x115004 ≥ 0 then (if x115004 ≤ 1073741824 then ((lines_Right.f x115005).bind fun t120 => (if t120 = true then ((lines_Right.f x115006).bind fun t121 => (if t121 = true then (some (decide ((wrap64 ((x115005.length : Int) + (x115006.length : Int))) > 0))) else (some false))) else (some false))) else (some false)) else (some false)) else (some false)) else (if x115002.toList = ([] : List UInt8) then (if x115000 ≥ 1 then (some (decide (x115000 ≤ 6))) else (some false)) else (some false)))) else (some false))))
end
def prim_Right.f (k : Nat) (a0_0 : Int) (a0_1 : ByteArray) (a0_2 : ByteArray) (a0_3 : ByteArray) (a0_4 : Int) (l0_5 : List ByteArray) (l0_6 : List ByteArray) : Option (Bool):=if (wrap64 ((l0_5.length : Int) + (l0_6.length : Int))) > 0 then (prim_Right.j0 k true a0_0 a0_1 a0_2 a0_3 a0_4 l0_5 l0_6) else (prim_Right.j0 k (a0_4 != 0) a0_0 a0_1 a0_2 a0_3 a0_4 l0_5 l0_6)
theorem prim_Right.mono_l : ∀ k,(∀ y0 y1 y2 y3 y4 y5 y6 y7,LeO (prim_Right.j0 k y0 y1 y2 y3 y4 y5 y6 y7) (prim_Right.j0 (k + 1) y0 y1 y2 y3 y4 y5 y6 y7)) ∧ (∀ y0 y1 y2 y3 y4 y5 y6 y7,LeO (prim_Right.j1 k y0 y1 y2 y3 y4 y5 y6 y7) (prim_Right.j1 (k + 1) y0 y1 y2 y3 y4 y5 y6 y7))
 | 0 => ⟨fun _ _ _ _ _ _ _ _ r h => by simp [prim_Right.j0] at h,fun _ _ _ _ _ _ _ _ r h => by simp [prim_Right.j1] at h⟩
 | k + 1 => by
  obtain ⟨ih0,ih1⟩:=prim_Right.mono_l k
  refine ⟨?_,?_⟩
  ·intro y0 y1 y2 y3 y4 y5 y6 y7
   unfold prim_Right.j0
   repeat' first
   | (with_reducible exact ih0 _ _ _ _ _ _ _ _)
   | (with_reducible exact ih1 _ _ _ _ _ _ _ _)
   | (with_reducible exact lines_Token.mono _ _)
   | (with_reducible exact LeO.refl _)
   | (with_reducible exact LeO.none _)
   | (with_reducible refine LeO.ite ?_ ?_)
   | (with_reducible refine LeO.bind ?_ (fun _ => ?_))
   | exact ih0 _ _ _ _ _ _ _ _
   | exact ih1 _ _ _ _ _ _ _ _
   | exact lines_Token.mono _ _
   | exact LeO.none _
   | refine LeO.ite ?_ ?_
   | refine LeO.bind ?_ (fun _ => ?_)
  ·intro y0 y1 y2 y3 y4 y5 y6 y7
   unfold prim_Right.j1
   repeat' first
   | (with_reducible exact ih0 _ _ _ _ _ _ _ _)
   | (with_reducible exact ih1 _ _ _ _ _ _ _ _)
   | (with_reducible exact lines_Token.mono _ _)
   | (with_reducible exact LeO.refl _)
   | (with_reducible exact LeO.none _)
   | (with_reducible refine LeO.ite ?_ ?_)
   | (with_reducible refine LeO.bind ?_ (fun _ => ?_))
   | exact ih0 _ _ _ _ _ _ _ _
   | exact ih1 _ _ _ _ _ _ _ _
   | exact lines_Token.mono _ _
   | exact LeO.none _
   | refine LeO.ite ?_ ?_
   | refine LeO.bind ?_ (fun _ => ?_)
theorem prim_Right.mono : ∀ a0 a1 a2 a3 a4 a5 a6 k,LeO (prim_Right.f k a0 a1 a2 a3 a4 a5 a6) (prim_Right.f (k + 1) a0 a1 a2 a3 a4 a5 a6):=by
 intro a0 a1 a2 a3 a4 a5 a6 k
 obtain ⟨ih0,ih1⟩:=prim_Right.mono_l k
 unfold prim_Right.f
 repeat' first
   | (with_reducible exact ih0 _ _ _ _ _ _ _ _)
   | (with_reducible exact ih1 _ _ _ _ _ _ _ _)
   | (with_reducible exact lines_Token.mono _ _)
   | (with_reducible exact LeO.refl _)
   | (with_reducible exact LeO.none _)
   | (with_reducible refine LeO.ite ?_ ?_)
   | (with_reducible refine LeO.bind ?_ (fun _ => ?_))
   | exact ih0 _ _ _ _ _ _ _ _
   | exact ih1 _ _ _ _ _ _ _ _
   | exact lines_Token.mono _ _
   | exact LeO.none _
   | refine LeO.ite ?_ ?_
   | refine LeO.bind ?_ (fun _ => ?_)
set_option maxHeartbeats 8000000 in
set_option maxRecDepth 100000 in
theorem prim_Right.calls (k : Nat) (a0_0 : Int) (a0_1 : ByteArray) (a0_2 : ByteArray) (a0_3 : ByteArray) (a0_4 : Int) (A0_5 : Option Addr) (c0_5 : Nat) (l0_5 : List ByteArray) (A0_6 : Option Addr) (c0_6 : Nat) (l0_6 : List ByteArray) (r : Bool) (w : World) (hr0_5 : Kd.C Kd.string w A0_5 l0_5.length l0_5) (hc0_5 : l0_5.length ≤ c0_5) (hr0_6 : Kd.C Kd.string w A0_6 l0_6.length l0_6) (hc0_6 : l0_6.length ≤ c0_6) (h : prim_Right.f k a0_0 a0_1 a0_2 a0_3 a0_4 l0_5 l0_6 = some r) :
  Calls Tryd.prog 19 #[.agg #[.int .i64 a0_0,.string a0_1,.string a0_2,.string a0_3,.int .i64 a0_4,.slice A0_5 l0_5.length c0_5,.slice A0_6 l0_6.length c0_6]] w fun e w' => e = .returned (.bool r) ∧ Below w.heap.size w w':=by
 have hu24:=Tryd.underlying24
 have HR0_5:=Aside0.mk hr0_5
 have HC0_5:=Aside0.mk hc0_5
 clear hr0_5 hc0_5
 have HR0_6:=Aside0.mk hr0_6
 have HC0_6:=Aside0.mk hc0_6
 clear hr0_6 hc0_6
 have HB:=Aside0.mk (Below.refl w.heap.size w)
 have H : (if (wrap64 ((l0_5.length : Int) + (l0_6.length : Int))) > 0 then (prim_Right.j0 k true a0_0 a0_1 a0_2 a0_3 a0_4 l0_5 l0_6) else (prim_Right.j0 k (a0_4 != 0) a0_0 a0_1 a0_2 a0_3 a0_4 l0_5 l0_6)) = some r:=h
 clear h
 have HC2:=Aside0.mk H
 clear H
 go_enter Tryd.func19,Tryd.ntmps19
 go_upto_region 1 with (first | ((with_reducible refine gate_dst (N:=1) rfl ?_); (try (refine gate_guard (by rfl) ?_; dsimp only)); refine box_event ?hg (N:=1) ?hd (cs:=#[.int .i64 a0_0,.string a0_1,.string a0_2,.string a0_3,.int .i64 a0_4,.slice A0_5 l0_5.length c0_5,.slice A0_6 l0_6.length c0_6]) (t:=24) ?hr ?_; (case hd => rfl); (case hg => rfl); (case hr => first | (go_simp; done) | (go_simp; rfl)); intro gb114 hg w3 hbox hb; have n0_:=Aside0.mk (below_step (by repeat (first | (with_reducible first | exact HB.out | apply below_alloc | apply pw_below_drewN | apply below_drew1) | exact HB.out)) hb); have n1_:=Aside0.mk (hbox); have n2_:=Aside0.mk ((by rw [hg]; exact (below_size (by repeat (first | (with_reducible first | exact HB.out | apply below_alloc | apply pw_below_drewN | apply below_drew1) | exact HB.out))) : w.heap.size ≤ gb114)); have n3_:=Aside0.mk ((by rw [hg]; exact (below_size (by repeat (first | (with_reducible first | exact HB.out | apply below_alloc | apply pw_below_drewN | apply below_drew1) | exact HB.out))) : w.heap.size ≤ gb114)); clear HB; have HB:=n0_; have BK114:=n1_; have GW114:=n2_; have GE114:=n3_; clear n0_ n1_ n2_ n3_; clear hb hbox hg))
 (try simp only [Act.put,List.setIfInBounds_toArray,List.set_cons_zero,List.set_cons_succ])
 go_cut [3] (fun v3 wc => ∃ (kq : Nat) (x3_1 : Bool),v3 = .bool x3_1 ∧ Aside0 (prim_Right.j0 kq x3_1 a0_0 a0_1 a0_2 a0_3 a0_4 l0_5 l0_6 = some r) ∧ Aside0 (kq ≤ k) ∧ Aside0 (wc.heap[gb114]? = some (.cells #[.int .i64 a0_0,.string a0_1,.string a0_2,.string a0_3,.int .i64 a0_4,(.slice A0_5 l0_5.length c0_5),(.slice A0_6 l0_6.length c0_6)] 24 (0,0))) ∧ Aside0 (Below w.heap.size w wc))
 case first =>
  have H:=HC2.out
  clear HC2
  by_cases c4 : (wrap64 ((l0_5.length : Int) + (l0_6.length : Int))) > 0
  ·rw [if_pos c4] at H
   have c4b0 : decide (0 < (wrap64 ((l0_5.length : Int) + (l0_6.length : Int)))) = true:=decide_eq_true c4
   clear c4
   (first | rw [c4b0] | (simp only [i64_w,i32_w]; rw [c4b0]) | skip)
   have H':=Aside0.mk H
   clear H
   have hcz5_0 : w3.cell? ⟨gb114,0,none⟩ = some (.int .i64 a0_0):=(blk_cell BK114.out 0).trans rfl
   have hcz5_1 : w3.cell? ⟨gb114,1,none⟩ = some (.string a0_1):=(blk_cell BK114.out 1).trans rfl
   have hcz5_2 : w3.cell? ⟨gb114,2,none⟩ = some (.string a0_2):=(blk_cell BK114.out 2).trans rfl
   have hcz5_3 : w3.cell? ⟨gb114,3,none⟩ = some (.string a0_3):=(blk_cell BK114.out 3).trans rfl
   have hcz5_4 : w3.cell? ⟨gb114,4,none⟩ = some (.int .i64 a0_4):=(blk_cell BK114.out 4).trans rfl
   have hcz5_5 : w3.cell? ⟨gb114,5,none⟩ = some (.slice A0_5 l0_5.length c0_5):=(blk_cell BK114.out 5).trans rfl
   have hcz5_6 : w3.cell? ⟨gb114,6,none⟩ = some (.slice A0_6 l0_6.length c0_6):=(blk_cell BK114.out 6).trans rfl
   have hfz5_0:=blk_frozen BK114.out 0
   have hfz5_1:=blk_frozen BK114.out 1
   have hfz5_2:=blk_frozen BK114.out 2
   have hfz5_3:=blk_frozen BK114.out 3
   have hfz5_4:=blk_frozen BK114.out 4
   have hfz5_5:=blk_frozen BK114.out 5
   have hfz5_6:=blk_frozen BK114.out 6
   go_wp2
   go_meet
   case rel => exact ⟨_,(true),(by first | rfl | (simp; done) | (simp [*]; done)),H',⟨by first | omega | exact Nat.le_refl _⟩,⟨by (with_reducible repeat (first | refine blk_drewN ?_ _ | refine blk_drew ?_ | refine blk_alloc ?_ _)); exact BK114.out⟩,⟨by repeat (first | (with_reducible first | exact HB.out | apply below_alloc | apply pw_below_drewN | apply below_drew1 | refine below_set ?_ GE114.out) | exact HB.out)⟩⟩
  ·rw [if_neg c4] at H
   have c4b0 : decide (0 < (wrap64 ((l0_5.length : Int) + (l0_6.length : Int)))) = false:=decide_eq_false c4
   clear c4
   (first | rw [c4b0] | (simp only [i64_w,i32_w]; rw [c4b0]) | skip)
   have H':=Aside0.mk H
   clear H
   have hcz6_0 : w3.cell? ⟨gb114,0,none⟩ = some (.int .i64 a0_0):=(blk_cell BK114.out 0).trans rfl
   have hcz6_1 : w3.cell? ⟨gb114,1,none⟩ = some (.string a0_1):=(blk_cell BK114.out 1).trans rfl
   have hcz6_2 : w3.cell? ⟨gb114,2,none⟩ = some (.string a0_2):=(blk_cell BK114.out 2).trans rfl
   have hcz6_3 : w3.cell? ⟨gb114,3,none⟩ = some (.string a0_3):=(blk_cell BK114.out 3).trans rfl
   have hcz6_4 : w3.cell? ⟨gb114,4,none⟩ = some (.int .i64 a0_4):=(blk_cell BK114.out 4).trans rfl
   have hcz6_5 : w3.cell? ⟨gb114,5,none⟩ = some (.slice A0_5 l0_5.length c0_5):=(blk_cell BK114.out 5).trans rfl
   have hcz6_6 : w3.cell? ⟨gb114,6,none⟩ = some (.slice A0_6 l0_6.length c0_6):=(blk_cell BK114.out 6).trans rfl
   have hfz6_0:=blk_frozen BK114.out 0
   have hfz6_1:=blk_frozen BK114.out 1
   have hfz6_2:=blk_frozen BK114.out 2
   have hfz6_3:=blk_frozen BK114.out 3
   have hfz6_4:=blk_frozen BK114.out 4
   have hfz6_5:=blk_frozen BK114.out 5
   have hfz6_6:=blk_frozen BK114.out 6
   go_wp2
   go_meet
   case rel => exact ⟨_,((a0_4 != 0)),(by first | rfl | (simp; done) | (simp [*]; done)),H',⟨by first | omega | exact Nat.le_refl _⟩,⟨by (with_reducible repeat (first | refine blk_drewN ?_ _ | refine blk_drew ?_ | refine blk_alloc ?_ _)); exact BK114.out⟩,⟨by repeat (first | (with_reducible first | exact HB.out | apply below_alloc | apply pw_below_drewN | apply below_drew1 | refine below_set ?_ GE114.out) | exact HB.out)⟩⟩
 case rest =>
  clear HC2
  try clear c1
  try clear p2
  try clear c4
  try clear c4b0
  try clear p6
  try clear hcz5_0
  try clear hcz5_1
  try clear hcz5_2
  try clear hcz5_3
  try clear hcz5_4
  try clear hcz5_5
  try clear hcz5_6
  try clear hcz6_0
  try clear hcz6_1
  try clear hcz6_2
  try clear hcz6_3
  try clear hcz6_4
  try clear hcz6_5
  try clear hcz6_6
  try clear hfz5_0
  try clear hfz5_1
  try clear hfz5_2
  try clear hfz5_3
  try clear hfz5_4
  try clear hfz5_5
  try clear hfz5_6
  try clear hfz6_0
  try clear hfz6_1
  try clear hfz6_2
  try clear hfz6_3
  try clear hfz6_4
  try clear hfz6_5
  try clear hfz6_6
  obtain ⟨kq,x3_1,rfl,HA,HJ1,BK114,HB⟩:=hcut
  cases kq with
  | zero => exact absurd HA.out (by simp [prim_Right.j0])
  | succ kj1 =>
   have H:=HA.out
   clear HA
   simp only [prim_Right.j0] at H
   replace H:=Option.bind_eq_some_iff.mp H
   obtain ⟨t115,A70,H⟩:=H
   replace H : (if t115 = true then (if x3_1 = true then (prim_Right.j1 kj1 (a0_0 != 7) a0_0 a0_1 a0_2 a0_3 a0_4 l0_5 l0_6) else (prim_Right.j1 kj1 false a0_0 a0_1 a0_2 a0_3 a0_4 l0_5 l0_6)) else (prim_Right.j1 kj1 (!t115) a0_0 a0_1 a0_2 a0_3 a0_4 l0_5 l0_6)) = some r:=H
   have A7:=Aside0.mk A70
   clear A70
   have HC8:=Aside0.mk H
   clear H
   have hcz9_0 : wc.cell? ⟨gb114,0,none⟩ = some (.int .i64 a0_0):=(blk_cell BK114.out 0).trans rfl
   have hcz9_1 : wc.cell? ⟨gb114,1,none⟩ = some (.string a0_1):=(blk_cell BK114.out 1).trans rfl
   have hcz9_2 : wc.cell? ⟨gb114,2,none⟩ = some (.string a0_2):=(blk_cell BK114.out 2).trans rfl
   have hcz9_3 : wc.cell? ⟨gb114,3,none⟩ = some (.string a0_3):=(blk_cell BK114.out 3).trans rfl
   have hcz9_4 : wc.cell? ⟨gb114,4,none⟩ = some (.int .i64 a0_4):=(blk_cell BK114.out 4).trans rfl
   have hcz9_5 : wc.cell? ⟨gb114,5,none⟩ = some (.slice A0_5 l0_5.length c0_5):=(blk_cell BK114.out 5).trans rfl
   have hcz9_6 : wc.cell? ⟨gb114,6,none⟩ = some (.slice A0_6 l0_6.length c0_6):=(blk_cell BK114.out 6).trans rfl
   have hfz9_0:=blk_frozen BK114.out 0
   have hfz9_1:=blk_frozen BK114.out 1
   have hfz9_2:=blk_frozen BK114.out 2
   have hfz9_3:=blk_frozen BK114.out 3
   have hfz9_4:=blk_frozen BK114.out 4
   have hfz9_5:=blk_frozen BK114.out 5
   have hfz9_6:=blk_frozen BK114.out 6
   go_upto_if 17 with (first | ((with_reducible refine gate_callee (f:=46) rfl ?_); refine goesL_ (some 20) rfl rfl Tryd.func46 (by kernel_rfl) rfl #[.string a0_1] rfl (by (try simp only [List.map_toArray,List.map_cons,List.map_nil]); first | done | rfl | (simp only [List.length_drop,List.length_take]; rfl)) ?_; (with_reducible refine (path_Right.calls a0_1 t115 _ A7.out).mono ?_); rintro e w10 ⟨rfl,hb⟩; refine ⟨_,rfl,?_⟩; have n0_:=Aside0.mk (blk_below (g:=gb114) (o:=.cells #[.int .i64 a0_0,.string a0_1,.string a0_2,.string a0_3,.int .i64 a0_4,.slice A0_5 l0_5.length c0_5,.slice A0_6 l0_6.length c0_6] 24 (0,0)) (by (with_reducible repeat (first | refine blk_drewN ?_ _ | refine blk_drew ?_ | refine blk_alloc ?_ _)); exact BK114.out) hb); have n1_:=Aside0.mk (below_step (by repeat (first | (with_reducible first | exact HB.out | apply below_alloc | apply pw_below_drewN | apply below_drew1 | refine below_set ?_ GE114.out) | exact HB.out)) hb); clear BK114; clear HB; have BK114:=n0_; have HB:=n1_; clear n0_ n1_; (try clear hb); (try clear hb2); (try clear hk); (try clear hi)))
   (try simp only [Act.put,List.setIfInBounds_toArray,List.set_cons_zero,List.set_cons_succ])
   go_cut [17] (fun v17 wc => ∃ (kq : Nat) (x17_7 : Bool),v17 = .bool x17_7 ∧ Aside0 (prim_Right.j1 kq x17_7 a0_0 a0_1 a0_2 a0_3 a0_4 l0_5 l0_6 = some r) ∧ Aside0 (kq ≤ kj1) ∧ Aside0 (wc.heap[gb114]? = some (.cells #[.int .i64 a0_0,.string a0_1,.string a0_2,.string a0_3,.int .i64 a0_4,(.slice A0_5 l0_5.length c0_5),(.slice A0_6 l0_6.length c0_6)] 24 (0,0))) ∧ Aside0 (Below w.heap.size w wc))
   case first =>
    have H:=HC8.out
    clear HC8
    by_cases c11 : t115 = true
    ·subst c11
     have H1 : (if x3_1 = true then (prim_Right.j1 kj1 (a0_0 != 7) a0_0 a0_1 a0_2 a0_3 a0_4 l0_5 l0_6) else (prim_Right.j1 kj1 false a0_0 a0_1 a0_2 a0_3 a0_4 l0_5 l0_6)) = some r:=by rw [if_pos rfl] at H; exact H
     clear H
     have H:=H1
     clear H1
     by_cases c12 : x3_1 = true
     ·subst c12
      have H1 : (prim_Right.j1 kj1 (a0_0 != 7) a0_0 a0_1 a0_2 a0_3 a0_4 l0_5 l0_6) = some r:=by rw [if_pos rfl] at H; exact H
      clear H
      have H:=H1
      clear H1
      have H':=Aside0.mk H
      clear H
      have hcz13_0 : w10.cell? ⟨gb114,0,none⟩ = some (.int .i64 a0_0):=(blk_cell BK114.out 0).trans rfl
      have hcz13_1 : w10.cell? ⟨gb114,1,none⟩ = some (.string a0_1):=(blk_cell BK114.out 1).trans rfl
      have hcz13_2 : w10.cell? ⟨gb114,2,none⟩ = some (.string a0_2):=(blk_cell BK114.out 2).trans rfl
      have hcz13_3 : w10.cell? ⟨gb114,3,none⟩ = some (.string a0_3):=(blk_cell BK114.out 3).trans rfl
      have hcz13_4 : w10.cell? ⟨gb114,4,none⟩ = some (.int .i64 a0_4):=(blk_cell BK114.out 4).trans rfl
      have hcz13_5 : w10.cell? ⟨gb114,5,none⟩ = some (.slice A0_5 l0_5.length c0_5):=(blk_cell BK114.out 5).trans rfl
      have hcz13_6 : w10.cell? ⟨gb114,6,none⟩ = some (.slice A0_6 l0_6.length c0_6):=(blk_cell BK114.out 6).trans rfl
      have hfz13_0:=blk_frozen BK114.out 0
      have hfz13_1:=blk_frozen BK114.out 1
      have hfz13_2:=blk_frozen BK114.out 2
      have hfz13_3:=blk_frozen BK114.out 3
      have hfz13_4:=blk_frozen BK114.out 4
      have hfz13_5:=blk_frozen BK114.out 5
      have hfz13_6:=blk_frozen BK114.out 6
      go_wp2
      go_meet
      case rel => exact ⟨_,((a0_0 != 7)),(by first | rfl | (simp; done) | (simp [*]; done)),H',⟨by have:=HJ1.out; first | omega | exact Nat.le_refl _⟩,⟨by (with_reducible repeat (first | refine blk_drewN ?_ _ | refine blk_drew ?_ | refine blk_alloc ?_ _)); exact BK114.out⟩,⟨by repeat (first | (with_reducible first | exact HB.out | apply below_alloc | apply pw_below_drewN | apply below_drew1 | refine below_set ?_ GE114.out) | exact HB.out)⟩⟩
     ·replace c12:=Bool.eq_false_iff.mpr c12
      subst c12
      have H1 : (prim_Right.j1 kj1 false a0_0 a0_1 a0_2 a0_3 a0_4 l0_5 l0_6) = some r:=by rw [if_neg (show ¬ (false = true) by decide)] at H; exact H
      clear H
      have H:=H1
      clear H1
      have H':=Aside0.mk H
      clear H
      go_wp2
      go_meet
      case rel => exact ⟨_,(false),(by first | rfl | (simp; done) | (simp [*]; done)),H',⟨by have:=HJ1.out; first | omega | exact Nat.le_refl _⟩,⟨by (with_reducible repeat (first | refine blk_drewN ?_ _ | refine blk_drew ?_ | refine blk_alloc ?_ _)); exact BK114.out⟩,⟨by repeat (first | (with_reducible first | exact HB.out | apply below_alloc | apply pw_below_drewN | apply below_drew1 | refine below_set ?_ GE114.out) | exact HB.out)⟩⟩
    ·replace c11:=Bool.eq_false_iff.mpr c11
     subst c11
     have H1 : (prim_Right.j1 kj1 (!false) a0_0 a0_1 a0_2 a0_3 a0_4 l0_5 l0_6) = some r:=by rw [if_neg (show ¬ (false = true) by decide)] at H; exact H
     clear H
     have H:=H1
     clear H1
     have H':=Aside0.mk H
     clear H
     go_wp2
     go_meet
     case rel => exact ⟨_,(!false),(by first | rfl | (simp; done) | (simp [*]; done)),H',⟨by have:=HJ1.out; first | omega | exact Nat.le_refl _⟩,⟨by (with_reducible repeat (first | refine blk_drewN ?_ _ | refine blk_drew ?_ | refine blk_alloc ?_ _)); exact BK114.out⟩,⟨by repeat (first | (with_reducible first | exact HB.out | apply below_alloc | apply pw_below_drewN | apply below_drew1 | refine below_set ?_ GE114.out) | exact HB.out)⟩⟩
   case rest =>
    clear HC8
    try clear c1
    try clear p2
    try clear c4
    try clear c4b0
    try clear p6
    try clear c11
    try clear c12
    try clear hcz13_0
    try clear hcz13_1
    try clear hcz13_2
    try clear hcz13_3
    try clear hcz13_4
    try clear hcz13_5
    try clear hcz13_6
    try clear hcz5_0
    try clear hcz5_1
    try clear hcz5_2
    try clear hcz5_3
    try clear hcz5_4
    try clear hcz5_5
    try clear hcz5_6
    try clear hcz6_0
    try clear hcz6_1
    try clear hcz6_2
    try clear hcz6_3
    try clear hcz6_4
    try clear hcz6_5
    try clear hcz6_6
    try clear hcz9_0
    try clear hcz9_1
    try clear hcz9_2
    try clear hcz9_3
    try clear hcz9_4
    try clear hcz9_5
    try clear hcz9_6
    try clear hfz13_0
    try clear hfz13_1
    try clear hfz13_2
    try clear hfz13_3
    try clear hfz13_4
    try clear hfz13_5
    try clear hfz13_6
    try clear hfz5_0
    try clear hfz5_1
    try clear hfz5_2
    try clear hfz5_3
    try clear hfz5_4
    try clear hfz5_5
    try clear hfz5_6
    try clear hfz6_0
    try clear hfz6_1
    try clear hfz6_2
    try clear hfz6_3
    try clear hfz6_4
    try clear hfz6_5
    try clear hfz6_6
    try clear hfz9_0
    try clear hfz9_1
    try clear hfz9_2
    try clear hfz9_3
    try clear hfz9_4
    try clear hfz9_5
    try clear hfz9_6
    try clear p2
    try clear p6
    obtain ⟨kq,x17_7,rfl,HA,HJ7,BK114,HB⟩:=hcut
    cases kq with
    | zero => exact absurd HA.out (by simp [prim_Right.j1])
    | succ kj7 =>
     have H:=HA.out
     clear HA
     simp only [prim_Right.j1] at H
     by_cases c14 : x17_7 = true
     ·subst c14
      have H1 : (some false) = some r:=by rw [if_pos rfl] at H; exact H
      clear H
      have H:=H1
      clear H1
      obtain rfl:=Option.some.inj H
      go_wp2
      go_ret
      exact ⟨by first | rfl | (simp [errW_none,errW_some] <;> rfl) | (simp [*,errW_none,errW_some] <;> rfl),by repeat (first | (with_reducible first | exact HB.out | apply below_alloc | apply pw_below_drewN | apply below_drew1 | refine below_set ?_ GE114.out) | exact HB.out)⟩
     ·replace c14:=Bool.eq_false_iff.mpr c14
      subst c14
      have H1 : (if a0_0 = 8 then ((lines_Token.f kj7 a0_3).bind fun t116 => (if t116 = true then ((lines_Token.f kj7 a0_2).bind fun t117 => (if t117 = true then (some (a0_3.toList != a0_2.toList)) else (some false))) else (some false))) else (if a0_0 = 9 then (some (a0_3.toList != a0_2.toList)) else (if a0_3.toList = ([] : List UInt8) then (if a0_0 = 10 then ((path_Right.f a0_2).bind fun t118 => (if t118 = true then ((path_Apart.f a0_1 a0_2).bind fun t119 => (some t119)) else (some false))) else (if a0_0 = 7 then (if a0_2.toList = ([] : List UInt8) then (if a0_4 ≥ 0 then (if a0_4 ≤ 1073741824 then ((lines_Right.f l0_5).bind fun t120 => (if t120 = true then ((lines_Right.f l0_6).bind fun t121 => (if t121 = true then (some (decide ((wrap64 ((l0_5.length : Int) + (l0_6.length : Int))) > 0))) else (some false))) else (some false))) else (some false)) else (some false)) else (some false)) else (if a0_2.toList = ([] : List UInt8) then (if a0_0 ≥ 1 then (some (decide (a0_0 ≤ 6))) else (some false)) else (some false)))) else (some false)))) = some r:=by rw [if_neg (show ¬ (false = true) by decide)] at H; exact H
      clear H
      have H:=H1
      clear H1
      by_cases c15 : a0_0 = 8
      ·rw [if_pos c15] at H
       have c15b0 : (a0_0 == 8) = true:=beq_iff_eq.mpr c15
       have c15b1 : (a0_0 != 8) = false:=bne_eq_false_iff_eq.mpr c15
       clear c15
       replace H:=Option.bind_eq_some_iff.mp H
       obtain ⟨t116,A160,H⟩:=H
       replace H : (if t116 = true then ((lines_Token.f kj7 a0_2).bind fun t117 => (if t117 = true then (some (a0_3.toList != a0_2.toList)) else (some false))) else (some false)) = some r:=H
       have A16:=Aside0.mk A160
       clear A160
       by_cases c17 : t116 = true
       ·subst c17
        have H1 : ((lines_Token.f kj7 a0_2).bind fun t117 => (if t117 = true then (some (a0_3.toList != a0_2.toList)) else (some false))) = some r:=by rw [if_pos rfl] at H; exact H
        clear H
        have H:=H1
        clear H1
        replace H:=Option.bind_eq_some_iff.mp H
        obtain ⟨t117,A180,H⟩:=H
        replace H : (if t117 = true then (some (a0_3.toList != a0_2.toList)) else (some false)) = some r:=H
        have A18:=Aside0.mk A180
        clear A180
        by_cases c19 : t117 = true
        ·subst c19
         have H1 : (some (a0_3.toList != a0_2.toList)) = some r:=by rw [if_pos rfl] at H; exact H
         clear H
         have H:=H1
         clear H1
         obtain rfl:=Option.some.inj H
         have hcz20_0 : wc.cell? ⟨gb114,0,none⟩ = some (.int .i64 a0_0):=(blk_cell BK114.out 0).trans rfl
         have hcz20_1 : wc.cell? ⟨gb114,1,none⟩ = some (.string a0_1):=(blk_cell BK114.out 1).trans rfl
         have hcz20_2 : wc.cell? ⟨gb114,2,none⟩ = some (.string a0_2):=(blk_cell BK114.out 2).trans rfl
         have hcz20_3 : wc.cell? ⟨gb114,3,none⟩ = some (.string a0_3):=(blk_cell BK114.out 3).trans rfl
         have hcz20_4 : wc.cell? ⟨gb114,4,none⟩ = some (.int .i64 a0_4):=(blk_cell BK114.out 4).trans rfl
         have hcz20_5 : wc.cell? ⟨gb114,5,none⟩ = some (.slice A0_5 l0_5.length c0_5):=(blk_cell BK114.out 5).trans rfl
         have hcz20_6 : wc.cell? ⟨gb114,6,none⟩ = some (.slice A0_6 l0_6.length c0_6):=(blk_cell BK114.out 6).trans rfl
         have hfz20_0:=blk_frozen BK114.out 0
         have hfz20_1:=blk_frozen BK114.out 1
         have hfz20_2:=blk_frozen BK114.out 2
         have hfz20_3:=blk_frozen BK114.out 3
         have hfz20_4:=blk_frozen BK114.out 4
         have hfz20_5:=blk_frozen BK114.out 5
         have hfz20_6:=blk_frozen BK114.out 6
         go_wp2_with (first | ((with_reducible refine gate_callee (f:=47) rfl ?_); refine goesL_ (some 34) rfl rfl Tryd.func47 (by kernel_rfl) rfl #[.string a0_3] rfl (by (try simp only [List.map_toArray,List.map_cons,List.map_nil]); first | done | rfl | (simp only [List.length_drop,List.length_take]; rfl)) ?_; (with_reducible refine (lines_Token.calls kj7 a0_3 true _ A16.out).mono ?_); rintro e w' ⟨rfl,⟨nd,rfl⟩⟩; refine ⟨_,rfl,?_⟩) | (go_at_call 47; (with_reducible refine (lines_Token.calls kj7 a0_2 true _ A18.out).mono ?_); rintro e w' ⟨rfl,⟨nd,rfl⟩⟩))
         go_ret
         exact ⟨by first | rfl | (simp [errW_none,errW_some] <;> rfl) | (simp [*,errW_none,errW_some] <;> rfl),by repeat (first | (with_reducible first | exact HB.out | apply below_alloc | apply pw_below_drewN | apply below_drew1 | refine below_set ?_ GE114.out) | exact HB.out)⟩
        ·replace c19:=Bool.eq_false_iff.mpr c19
         subst c19
         have H1 : (some false) = some r:=by rw [if_neg (show ¬ (false = true) by decide)] at H; exact H
         clear H
         have H:=H1
         clear H1
         obtain rfl:=Option.some.inj H
         have hcz21_0 : wc.cell? ⟨gb114,0,none⟩ = some (.int .i64 a0_0):=(blk_cell BK114.out 0).trans rfl
         have hcz21_1 : wc.cell? ⟨gb114,1,none⟩ = some (.string a0_1):=(blk_cell BK114.out 1).trans rfl
         have hcz21_2 : wc.cell? ⟨gb114,2,none⟩ = some (.string a0_2):=(blk_cell BK114.out 2).trans rfl
         have hcz21_3 : wc.cell? ⟨gb114,3,none⟩ = some (.string a0_3):=(blk_cell BK114.out 3).trans rfl
         have hcz21_4 : wc.cell? ⟨gb114,4,none⟩ = some (.int .i64 a0_4):=(blk_cell BK114.out 4).trans rfl
         have hcz21_5 : wc.cell? ⟨gb114,5,none⟩ = some (.slice A0_5 l0_5.length c0_5):=(blk_cell BK114.out 5).trans rfl
         have hcz21_6 : wc.cell? ⟨gb114,6,none⟩ = some (.slice A0_6 l0_6.length c0_6):=(blk_cell BK114.out 6).trans rfl
         have hfz21_0:=blk_frozen BK114.out 0
         have hfz21_1:=blk_frozen BK114.out 1
         have hfz21_2:=blk_frozen BK114.out 2
         have hfz21_3:=blk_frozen BK114.out 3
         have hfz21_4:=blk_frozen BK114.out 4
         have hfz21_5:=blk_frozen BK114.out 5
         have hfz21_6:=blk_frozen BK114.out 6
         go_wp2_with (first | ((with_reducible refine gate_callee (f:=47) rfl ?_); refine goesL_ (some 34) rfl rfl Tryd.func47 (by kernel_rfl) rfl #[.string a0_3] rfl (by (try simp only [List.map_toArray,List.map_cons,List.map_nil]); first | done | rfl | (simp only [List.length_drop,List.length_take]; rfl)) ?_; (with_reducible refine (lines_Token.calls kj7 a0_3 true _ A16.out).mono ?_); rintro e w' ⟨rfl,⟨nd,rfl⟩⟩; refine ⟨_,rfl,?_⟩) | (go_at_call 47; (with_reducible refine (lines_Token.calls kj7 a0_2 false _ A18.out).mono ?_); rintro e w' ⟨rfl,⟨nd,rfl⟩⟩))
         go_ret
         exact ⟨by first | rfl | (simp [errW_none,errW_some] <;> rfl) | (simp [*,errW_none,errW_some] <;> rfl),by repeat (first | (with_reducible first | exact HB.out | apply below_alloc | apply pw_below_drewN | apply below_drew1 | refine below_set ?_ GE114.out) | exact HB.out)⟩
       ·replace c17:=Bool.eq_false_iff.mpr c17
        subst c17
        have H1 : (some false) = some r:=by rw [if_neg (show ¬ (false = true) by decide)] at H; exact H
        clear H
        have H:=H1
        clear H1
        obtain rfl:=Option.some.inj H
        have hcz22_0 : wc.cell? ⟨gb114,0,none⟩ = some (.int .i64 a0_0):=(blk_cell BK114.out 0).trans rfl
        have hcz22_1 : wc.cell? ⟨gb114,1,none⟩ = some (.string a0_1):=(blk_cell BK114.out 1).trans rfl
        have hcz22_2 : wc.cell? ⟨gb114,2,none⟩ = some (.string a0_2):=(blk_cell BK114.out 2).trans rfl
        have hcz22_3 : wc.cell? ⟨gb114,3,none⟩ = some (.string a0_3):=(blk_cell BK114.out 3).trans rfl
        have hcz22_4 : wc.cell? ⟨gb114,4,none⟩ = some (.int .i64 a0_4):=(blk_cell BK114.out 4).trans rfl
        have hcz22_5 : wc.cell? ⟨gb114,5,none⟩ = some (.slice A0_5 l0_5.length c0_5):=(blk_cell BK114.out 5).trans rfl
        have hcz22_6 : wc.cell? ⟨gb114,6,none⟩ = some (.slice A0_6 l0_6.length c0_6):=(blk_cell BK114.out 6).trans rfl
        have hfz22_0:=blk_frozen BK114.out 0
        have hfz22_1:=blk_frozen BK114.out 1
        have hfz22_2:=blk_frozen BK114.out 2
        have hfz22_3:=blk_frozen BK114.out 3
        have hfz22_4:=blk_frozen BK114.out 4
        have hfz22_5:=blk_frozen BK114.out 5
        have hfz22_6:=blk_frozen BK114.out 6
        go_wp2_with (first | ((with_reducible refine gate_callee (f:=47) rfl ?_); refine goesL_ (some 34) rfl rfl Tryd.func47 (by kernel_rfl) rfl #[.string a0_3] rfl (by (try simp only [List.map_toArray,List.map_cons,List.map_nil]); first | done | rfl | (simp only [List.length_drop,List.length_take]; rfl)) ?_; (with_reducible refine (lines_Token.calls kj7 a0_3 false _ A16.out).mono ?_); rintro e w' ⟨rfl,⟨nd,rfl⟩⟩; refine ⟨_,rfl,?_⟩))
        go_ret
        exact ⟨by first | rfl | (simp [errW_none,errW_some] <;> rfl) | (simp [*,errW_none,errW_some] <;> rfl),by repeat (first | (with_reducible first | exact HB.out | apply below_alloc | apply pw_below_drewN | apply below_drew1 | refine below_set ?_ GE114.out) | exact HB.out)⟩
      ·rw [if_neg c15] at H
       have c15b0 : (a0_0 == 8) = false:=beq_eq_false_iff_ne.mpr c15
       have c15b1 : (a0_0 != 8) = true:=bne_iff_ne.mpr c15
       by_cases c23 : a0_0 = 9
       ·rw [if_pos c23] at H
        have c23b0 : (a0_0 == 9) = true:=beq_iff_eq.mpr c23
        have c23b1 : (a0_0 != 9) = false:=bne_eq_false_iff_eq.mpr c23
        clear c23
        obtain rfl:=Option.some.inj H
        have hcz24_0 : wc.cell? ⟨gb114,0,none⟩ = some (.int .i64 a0_0):=(blk_cell BK114.out 0).trans rfl
        have hcz24_1 : wc.cell? ⟨gb114,1,none⟩ = some (.string a0_1):=(blk_cell BK114.out 1).trans rfl
        have hcz24_2 : wc.cell? ⟨gb114,2,none⟩ = some (.string a0_2):=(blk_cell BK114.out 2).trans rfl
        have hcz24_3 : wc.cell? ⟨gb114,3,none⟩ = some (.string a0_3):=(blk_cell BK114.out 3).trans rfl
        have hcz24_4 : wc.cell? ⟨gb114,4,none⟩ = some (.int .i64 a0_4):=(blk_cell BK114.out 4).trans rfl
        have hcz24_5 : wc.cell? ⟨gb114,5,none⟩ = some (.slice A0_5 l0_5.length c0_5):=(blk_cell BK114.out 5).trans rfl
        have hcz24_6 : wc.cell? ⟨gb114,6,none⟩ = some (.slice A0_6 l0_6.length c0_6):=(blk_cell BK114.out 6).trans rfl
        have hfz24_0:=blk_frozen BK114.out 0
        have hfz24_1:=blk_frozen BK114.out 1
        have hfz24_2:=blk_frozen BK114.out 2
        have hfz24_3:=blk_frozen BK114.out 3
        have hfz24_4:=blk_frozen BK114.out 4
        have hfz24_5:=blk_frozen BK114.out 5
        have hfz24_6:=blk_frozen BK114.out 6
        go_wp2
        go_ret
        exact ⟨by first | rfl | (simp [errW_none,errW_some] <;> rfl) | (simp [*,errW_none,errW_some] <;> rfl),by repeat (first | (with_reducible first | exact HB.out | apply below_alloc | apply pw_below_drewN | apply below_drew1 | refine below_set ?_ GE114.out) | exact HB.out)⟩
       ·rw [if_neg c23] at H
        have c23b0 : (a0_0 == 9) = false:=beq_eq_false_iff_ne.mpr c23
        have c23b1 : (a0_0 != 9) = true:=bne_iff_ne.mpr c23
        by_cases c25 : a0_3.toList = ([] : List UInt8)
        ·rw [if_pos c25] at H
         have c25b0 : (a0_3.toList == ([] : List UInt8)) = true:=beq_iff_eq.mpr c25
         have c25b1 : (a0_3.toList != ([] : List UInt8)) = false:=bne_eq_false_iff_eq.mpr c25
         clear c25
         by_cases c26 : a0_0 = 10
         ·rw [if_pos c26] at H
          have c26b0 : (a0_0 == 10) = true:=beq_iff_eq.mpr c26
          have c26b1 : (a0_0 != 10) = false:=bne_eq_false_iff_eq.mpr c26
          clear c26
          replace H:=Option.bind_eq_some_iff.mp H
          obtain ⟨t118,A270,H⟩:=H
          replace H : (if t118 = true then ((path_Apart.f a0_1 a0_2).bind fun t119 => (some t119)) else (some false)) = some r:=H
          have A27:=Aside0.mk A270
          clear A270
          by_cases c28 : t118 = true
          ·subst c28
           have H1 : ((path_Apart.f a0_1 a0_2).bind fun t119 => (some t119)) = some r:=by rw [if_pos rfl] at H; exact H
           clear H
           have H:=H1
           clear H1
           replace H:=Option.bind_eq_some_iff.mp H
           obtain ⟨t119,A290,H⟩:=H
           replace H : (some t119) = some r:=H
           have A29:=Aside0.mk A290
           clear A290
           obtain rfl:=Option.some.inj H
           have hcz30_0 : wc.cell? ⟨gb114,0,none⟩ = some (.int .i64 a0_0):=(blk_cell BK114.out 0).trans rfl
           have hcz30_1 : wc.cell? ⟨gb114,1,none⟩ = some (.string a0_1):=(blk_cell BK114.out 1).trans rfl
           have hcz30_2 : wc.cell? ⟨gb114,2,none⟩ = some (.string a0_2):=(blk_cell BK114.out 2).trans rfl
           have hcz30_3 : wc.cell? ⟨gb114,3,none⟩ = some (.string a0_3):=(blk_cell BK114.out 3).trans rfl
           have hcz30_4 : wc.cell? ⟨gb114,4,none⟩ = some (.int .i64 a0_4):=(blk_cell BK114.out 4).trans rfl
           have hcz30_5 : wc.cell? ⟨gb114,5,none⟩ = some (.slice A0_5 l0_5.length c0_5):=(blk_cell BK114.out 5).trans rfl
           have hcz30_6 : wc.cell? ⟨gb114,6,none⟩ = some (.slice A0_6 l0_6.length c0_6):=(blk_cell BK114.out 6).trans rfl
           have hfz30_0:=blk_frozen BK114.out 0
           have hfz30_1:=blk_frozen BK114.out 1
           have hfz30_2:=blk_frozen BK114.out 2
           have hfz30_3:=blk_frozen BK114.out 3
           have hfz30_4:=blk_frozen BK114.out 4
           have hfz30_5:=blk_frozen BK114.out 5
           have hfz30_6:=blk_frozen BK114.out 6
           go_wp2_with (first | ((with_reducible refine gate_callee (f:=46) rfl ?_); refine goesL_ (some 66) rfl rfl Tryd.func46 (by kernel_rfl) rfl #[.string a0_2] rfl (by (try simp only [List.map_toArray,List.map_cons,List.map_nil]); first | done | rfl | (simp only [List.length_drop,List.length_take]; rfl)) ?_; (with_reducible refine (path_Right.calls a0_2 true _ A27.out).mono ?_); rintro e w31 ⟨rfl,hb⟩; refine ⟨_,rfl,?_⟩; have n0_:=Aside0.mk (blk_below (g:=gb114) (o:=.cells #[.int .i64 a0_0,.string a0_1,.string a0_2,.string a0_3,.int .i64 a0_4,.slice A0_5 l0_5.length c0_5,.slice A0_6 l0_6.length c0_6] 24 (0,0)) (by (with_reducible repeat (first | refine blk_drewN ?_ _ | refine blk_drew ?_ | refine blk_alloc ?_ _)); exact BK114.out) hb); have n1_:=Aside0.mk (below_step (by repeat (first | (with_reducible first | exact HB.out | apply below_alloc | apply pw_below_drewN | apply below_drew1 | refine below_set ?_ GE114.out) | exact HB.out)) hb); clear BK114; clear HB; have BK114:=n0_; have HB:=n1_; clear n0_ n1_; (try clear hb); (try clear hb2); (try clear hk); (try clear hi); have hcz32_0 : w31.cell? ⟨gb114,0,none⟩ = some (.int .i64 a0_0):=(blk_cell BK114.out 0).trans rfl; have hcz32_1 : w31.cell? ⟨gb114,1,none⟩ = some (.string a0_1):=(blk_cell BK114.out 1).trans rfl; have hcz32_2 : w31.cell? ⟨gb114,2,none⟩ = some (.string a0_2):=(blk_cell BK114.out 2).trans rfl; have hcz32_3 : w31.cell? ⟨gb114,3,none⟩ = some (.string a0_3):=(blk_cell BK114.out 3).trans rfl; have hcz32_4 : w31.cell? ⟨gb114,4,none⟩ = some (.int .i64 a0_4):=(blk_cell BK114.out 4).trans rfl; have hcz32_5 : w31.cell? ⟨gb114,5,none⟩ = some (.slice A0_5 l0_5.length c0_5):=(blk_cell BK114.out 5).trans rfl; have hcz32_6 : w31.cell? ⟨gb114,6,none⟩ = some (.slice A0_6 l0_6.length c0_6):=(blk_cell BK114.out 6).trans rfl; have hfz32_0:=blk_frozen BK114.out 0; have hfz32_1:=blk_frozen BK114.out 1; have hfz32_2:=blk_frozen BK114.out 2; have hfz32_3:=blk_frozen BK114.out 3; have hfz32_4:=blk_frozen BK114.out 4; have hfz32_5:=blk_frozen BK114.out 5; have hfz32_6:=blk_frozen BK114.out 6) | (go_at_call 48; (with_reducible refine (path_Apart.calls a0_1 a0_2 t119 _ A29.out).mono ?_); rintro e w' ⟨rfl,⟨nd,rfl⟩⟩))
           go_ret
           exact ⟨by first | rfl | (simp [errW_none,errW_some] <;> rfl) | (simp [*,errW_none,errW_some] <;> rfl),by repeat (first | (with_reducible first | exact HB.out | apply below_alloc | apply pw_below_drewN | apply below_drew1 | refine below_set ?_ GE114.out) | exact HB.out)⟩
          ·replace c28:=Bool.eq_false_iff.mpr c28
           subst c28
           have H1 : (some false) = some r:=by rw [if_neg (show ¬ (false = true) by decide)] at H; exact H
           clear H
           have H:=H1
           clear H1
           obtain rfl:=Option.some.inj H
           have hcz33_0 : wc.cell? ⟨gb114,0,none⟩ = some (.int .i64 a0_0):=(blk_cell BK114.out 0).trans rfl
           have hcz33_1 : wc.cell? ⟨gb114,1,none⟩ = some (.string a0_1):=(blk_cell BK114.out 1).trans rfl
           have hcz33_2 : wc.cell? ⟨gb114,2,none⟩ = some (.string a0_2):=(blk_cell BK114.out 2).trans rfl
           have hcz33_3 : wc.cell? ⟨gb114,3,none⟩ = some (.string a0_3):=(blk_cell BK114.out 3).trans rfl
           have hcz33_4 : wc.cell? ⟨gb114,4,none⟩ = some (.int .i64 a0_4):=(blk_cell BK114.out 4).trans rfl
           have hcz33_5 : wc.cell? ⟨gb114,5,none⟩ = some (.slice A0_5 l0_5.length c0_5):=(blk_cell BK114.out 5).trans rfl
           have hcz33_6 : wc.cell? ⟨gb114,6,none⟩ = some (.slice A0_6 l0_6.length c0_6):=(blk_cell BK114.out 6).trans rfl
           have hfz33_0:=blk_frozen BK114.out 0
           have hfz33_1:=blk_frozen BK114.out 1
           have hfz33_2:=blk_frozen BK114.out 2
           have hfz33_3:=blk_frozen BK114.out 3
           have hfz33_4:=blk_frozen BK114.out 4
           have hfz33_5:=blk_frozen BK114.out 5
           have hfz33_6:=blk_frozen BK114.out 6
           go_wp2_with (first | ((with_reducible refine gate_callee (f:=46) rfl ?_); refine goesL_ (some 66) rfl rfl Tryd.func46 (by kernel_rfl) rfl #[.string a0_2] rfl (by (try simp only [List.map_toArray,List.map_cons,List.map_nil]); first | done | rfl | (simp only [List.length_drop,List.length_take]; rfl)) ?_; (with_reducible refine (path_Right.calls a0_2 false _ A27.out).mono ?_); rintro e w34 ⟨rfl,hb⟩; refine ⟨_,rfl,?_⟩; have n0_:=Aside0.mk (blk_below (g:=gb114) (o:=.cells #[.int .i64 a0_0,.string a0_1,.string a0_2,.string a0_3,.int .i64 a0_4,.slice A0_5 l0_5.length c0_5,.slice A0_6 l0_6.length c0_6] 24 (0,0)) (by (with_reducible repeat (first | refine blk_drewN ?_ _ | refine blk_drew ?_ | refine blk_alloc ?_ _)); exact BK114.out) hb); have n1_:=Aside0.mk (below_step (by repeat (first | (with_reducible first | exact HB.out | apply below_alloc | apply pw_below_drewN | apply below_drew1 | refine below_set ?_ GE114.out) | exact HB.out)) hb); clear BK114; clear HB; have BK114:=n0_; have HB:=n1_; clear n0_ n1_; (try clear hb); (try clear hb2); (try clear hk); (try clear hi)))
           go_ret
           exact ⟨by first | rfl | (simp [errW_none,errW_some] <;> rfl) | (simp [*,errW_none,errW_some] <;> rfl),by repeat (first | (with_reducible first | exact HB.out | apply below_alloc | apply pw_below_drewN | apply below_drew1 | refine below_set ?_ GE114.out) | exact HB.out)⟩
         ·rw [if_neg c26] at H
          have c26b0 : (a0_0 == 10) = false:=beq_eq_false_iff_ne.mpr c26
          have c26b1 : (a0_0 != 10) = true:=bne_iff_ne.mpr c26
          by_cases c35 : a0_0 = 7
          ·rw [if_pos c35] at H
           have c35b0 : (a0_0 == 7) = true:=beq_iff_eq.mpr c35
           have c35b1 : (a0_0 != 7) = false:=bne_eq_false_iff_eq.mpr c35
           clear c35
           by_cases c36 : a0_2.toList = ([] : List UInt8)
           ·rw [if_pos c36] at H
            have c36b0 : (a0_2.toList == ([] : List UInt8)) = true:=beq_iff_eq.mpr c36
            have c36b1 : (a0_2.toList != ([] : List UInt8)) = false:=bne_eq_false_iff_eq.mpr c36
            clear c36
            by_cases c37 : a0_4 ≥ 0
            ·rw [if_pos c37] at H
             have c37b0 : decide (0 ≤ a0_4) = true:=decide_eq_true c37
             clear c37
             by_cases c38 : a0_4 ≤ 1073741824
             ·rw [if_pos c38] at H
              have c38b0 : decide (a0_4 ≤ 1073741824) = true:=decide_eq_true c38
              clear c38
              replace H:=Option.bind_eq_some_iff.mp H
              obtain ⟨t120,A390,H⟩:=H
              replace H : (if t120 = true then ((lines_Right.f l0_6).bind fun t121 => (if t121 = true then (some (decide ((wrap64 ((l0_5.length : Int) + (l0_6.length : Int))) > 0))) else (some false))) else (some false)) = some r:=H
              have A39:=Aside0.mk A390
              clear A390
              by_cases c40 : t120 = true
              ·subst c40
               have H1 : ((lines_Right.f l0_6).bind fun t121 => (if t121 = true then (some (decide ((wrap64 ((l0_5.length : Int) + (l0_6.length : Int))) > 0))) else (some false))) = some r:=by rw [if_pos rfl] at H; exact H
               clear H
               have H:=H1
               clear H1
               replace H:=Option.bind_eq_some_iff.mp H
               obtain ⟨t121,A410,H⟩:=H
               replace H : (if t121 = true then (some (decide ((wrap64 ((l0_5.length : Int) + (l0_6.length : Int))) > 0))) else (some false)) = some r:=H
               have A41:=Aside0.mk A410
               clear A410
               by_cases c42 : t121 = true
               ·subst c42
                have H1 : (some (decide ((wrap64 ((l0_5.length : Int) + (l0_6.length : Int))) > 0))) = some r:=by rw [if_pos rfl] at H; exact H
                clear H
                have H:=H1
                clear H1
                obtain rfl:=Option.some.inj H
                have hcz43_0 : wc.cell? ⟨gb114,0,none⟩ = some (.int .i64 a0_0):=(blk_cell BK114.out 0).trans rfl
                have hcz43_1 : wc.cell? ⟨gb114,1,none⟩ = some (.string a0_1):=(blk_cell BK114.out 1).trans rfl
                have hcz43_2 : wc.cell? ⟨gb114,2,none⟩ = some (.string a0_2):=(blk_cell BK114.out 2).trans rfl
                have hcz43_3 : wc.cell? ⟨gb114,3,none⟩ = some (.string a0_3):=(blk_cell BK114.out 3).trans rfl
                have hcz43_4 : wc.cell? ⟨gb114,4,none⟩ = some (.int .i64 a0_4):=(blk_cell BK114.out 4).trans rfl
                have hcz43_5 : wc.cell? ⟨gb114,5,none⟩ = some (.slice A0_5 l0_5.length c0_5):=(blk_cell BK114.out 5).trans rfl
                have hcz43_6 : wc.cell? ⟨gb114,6,none⟩ = some (.slice A0_6 l0_6.length c0_6):=(blk_cell BK114.out 6).trans rfl
                have hfz43_0:=blk_frozen BK114.out 0
                have hfz43_1:=blk_frozen BK114.out 1
                have hfz43_2:=blk_frozen BK114.out 2
                have hfz43_3:=blk_frozen BK114.out 3
                have hfz43_4:=blk_frozen BK114.out 4
                have hfz43_5:=blk_frozen BK114.out 5
                have hfz43_6:=blk_frozen BK114.out 6
                go_wp2_with (first | (go_at_call 49; (with_reducible refine (lines_Right.calls _ _ l0_5 true _ ?side1 ?side2 A39.out).mono ?_); (case side1 => repeat (first | exact (Kd.C_below HR0_5.out HB.out) | (with_reducible refine Kd.C_alloc ?_ _) | (with_reducible refine Kd.C_drewN ?_ _) | (with_reducible refine Kd.C_drew ?_))); (case side2 => exact HC0_5.out); rintro e w' ⟨rfl,⟨nd,rfl⟩⟩) | (go_at_call 49; (with_reducible refine (lines_Right.calls _ _ l0_6 true _ ?side1 ?side2 A41.out).mono ?_); (case side1 => repeat (first | exact (Kd.C_below HR0_6.out (by repeat (first | (with_reducible first | exact HB.out | apply below_alloc | apply pw_below_drewN | apply below_drew1 | refine below_set ?_ GE114.out) | exact HB.out))) | (with_reducible refine Kd.C_alloc ?_ _) | (with_reducible refine Kd.C_drewN ?_ _) | (with_reducible refine Kd.C_drew ?_))); (case side2 => exact HC0_6.out); rintro e w' ⟨rfl,⟨nd,rfl⟩⟩))
                go_ret
                exact ⟨by first | rfl | (simp [errW_none,errW_some] <;> rfl) | (simp [*,errW_none,errW_some] <;> rfl),by repeat (first | (with_reducible first | exact HB.out | apply below_alloc | apply pw_below_drewN | apply below_drew1 | refine below_set ?_ GE114.out) | exact HB.out)⟩
               ·replace c42:=Bool.eq_false_iff.mpr c42
                subst c42
                have H1 : (some false) = some r:=by rw [if_neg (show ¬ (false = true) by decide)] at H; exact H
                clear H
                have H:=H1
                clear H1
                obtain rfl:=Option.some.inj H
                have hcz44_0 : wc.cell? ⟨gb114,0,none⟩ = some (.int .i64 a0_0):=(blk_cell BK114.out 0).trans rfl
                have hcz44_1 : wc.cell? ⟨gb114,1,none⟩ = some (.string a0_1):=(blk_cell BK114.out 1).trans rfl
                have hcz44_2 : wc.cell? ⟨gb114,2,none⟩ = some (.string a0_2):=(blk_cell BK114.out 2).trans rfl
                have hcz44_3 : wc.cell? ⟨gb114,3,none⟩ = some (.string a0_3):=(blk_cell BK114.out 3).trans rfl
                have hcz44_4 : wc.cell? ⟨gb114,4,none⟩ = some (.int .i64 a0_4):=(blk_cell BK114.out 4).trans rfl
                have hcz44_5 : wc.cell? ⟨gb114,5,none⟩ = some (.slice A0_5 l0_5.length c0_5):=(blk_cell BK114.out 5).trans rfl
                have hcz44_6 : wc.cell? ⟨gb114,6,none⟩ = some (.slice A0_6 l0_6.length c0_6):=(blk_cell BK114.out 6).trans rfl
                have hfz44_0:=blk_frozen BK114.out 0
                have hfz44_1:=blk_frozen BK114.out 1
                have hfz44_2:=blk_frozen BK114.out 2
                have hfz44_3:=blk_frozen BK114.out 3
                have hfz44_4:=blk_frozen BK114.out 4
                have hfz44_5:=blk_frozen BK114.out 5
                have hfz44_6:=blk_frozen BK114.out 6
                go_wp2_with (first | (go_at_call 49; (with_reducible refine (lines_Right.calls _ _ l0_5 true _ ?side1 ?side2 A39.out).mono ?_); (case side1 => repeat (first | exact (Kd.C_below HR0_5.out HB.out) | (with_reducible refine Kd.C_alloc ?_ _) | (with_reducible refine Kd.C_drewN ?_ _) | (with_reducible refine Kd.C_drew ?_))); (case side2 => exact HC0_5.out); rintro e w' ⟨rfl,⟨nd,rfl⟩⟩) | (go_at_call 49; (with_reducible refine (lines_Right.calls _ _ l0_6 false _ ?side1 ?side2 A41.out).mono ?_); (case side1 => repeat (first | exact (Kd.C_below HR0_6.out (by repeat (first | (with_reducible first | exact HB.out | apply below_alloc | apply pw_below_drewN | apply below_drew1 | refine below_set ?_ GE114.out) | exact HB.out))) | (with_reducible refine Kd.C_alloc ?_ _) | (with_reducible refine Kd.C_drewN ?_ _) | (with_reducible refine Kd.C_drew ?_))); (case side2 => exact HC0_6.out); rintro e w' ⟨rfl,⟨nd,rfl⟩⟩))
                go_ret
                exact ⟨by first | rfl | (simp [errW_none,errW_some] <;> rfl) | (simp [*,errW_none,errW_some] <;> rfl),by repeat (first | (with_reducible first | exact HB.out | apply below_alloc | apply pw_below_drewN | apply below_drew1 | refine below_set ?_ GE114.out) | exact HB.out)⟩
              ·replace c40:=Bool.eq_false_iff.mpr c40
               subst c40
               have H1 : (some false) = some r:=by rw [if_neg (show ¬ (false = true) by decide)] at H; exact H
               clear H
               have H:=H1
               clear H1
               obtain rfl:=Option.some.inj H
               have hcz45_0 : wc.cell? ⟨gb114,0,none⟩ = some (.int .i64 a0_0):=(blk_cell BK114.out 0).trans rfl
               have hcz45_1 : wc.cell? ⟨gb114,1,none⟩ = some (.string a0_1):=(blk_cell BK114.out 1).trans rfl
               have hcz45_2 : wc.cell? ⟨gb114,2,none⟩ = some (.string a0_2):=(blk_cell BK114.out 2).trans rfl
               have hcz45_3 : wc.cell? ⟨gb114,3,none⟩ = some (.string a0_3):=(blk_cell BK114.out 3).trans rfl
               have hcz45_4 : wc.cell? ⟨gb114,4,none⟩ = some (.int .i64 a0_4):=(blk_cell BK114.out 4).trans rfl
               have hcz45_5 : wc.cell? ⟨gb114,5,none⟩ = some (.slice A0_5 l0_5.length c0_5):=(blk_cell BK114.out 5).trans rfl
               have hcz45_6 : wc.cell? ⟨gb114,6,none⟩ = some (.slice A0_6 l0_6.length c0_6):=(blk_cell BK114.out 6).trans rfl
               have hfz45_0:=blk_frozen BK114.out 0
               have hfz45_1:=blk_frozen BK114.out 1
               have hfz45_2:=blk_frozen BK114.out 2
               have hfz45_3:=blk_frozen BK114.out 3
               have hfz45_4:=blk_frozen BK114.out 4
               have hfz45_5:=blk_frozen BK114.out 5
               have hfz45_6:=blk_frozen BK114.out 6
               go_wp2_with (first | (go_at_call 49; (with_reducible refine (lines_Right.calls _ _ l0_5 false _ ?side1 ?side2 A39.out).mono ?_); (case side1 => repeat (first | exact (Kd.C_below HR0_5.out HB.out) | (with_reducible refine Kd.C_alloc ?_ _) | (with_reducible refine Kd.C_drewN ?_ _) | (with_reducible refine Kd.C_drew ?_))); (case side2 => exact HC0_5.out); rintro e w' ⟨rfl,⟨nd,rfl⟩⟩))
               go_ret
               exact ⟨by first | rfl | (simp [errW_none,errW_some] <;> rfl) | (simp [*,errW_none,errW_some] <;> rfl),by repeat (first | (with_reducible first | exact HB.out | apply below_alloc | apply pw_below_drewN | apply below_drew1 | refine below_set ?_ GE114.out) | exact HB.out)⟩
             ·rw [if_neg c38] at H
              have c38b0 : decide (a0_4 ≤ 1073741824) = false:=decide_eq_false c38
              clear c38
              obtain rfl:=Option.some.inj H
              have hcz46_0 : wc.cell? ⟨gb114,0,none⟩ = some (.int .i64 a0_0):=(blk_cell BK114.out 0).trans rfl
              have hcz46_1 : wc.cell? ⟨gb114,1,none⟩ = some (.string a0_1):=(blk_cell BK114.out 1).trans rfl
              have hcz46_2 : wc.cell? ⟨gb114,2,none⟩ = some (.string a0_2):=(blk_cell BK114.out 2).trans rfl
              have hcz46_3 : wc.cell? ⟨gb114,3,none⟩ = some (.string a0_3):=(blk_cell BK114.out 3).trans rfl
              have hcz46_4 : wc.cell? ⟨gb114,4,none⟩ = some (.int .i64 a0_4):=(blk_cell BK114.out 4).trans rfl
              have hcz46_5 : wc.cell? ⟨gb114,5,none⟩ = some (.slice A0_5 l0_5.length c0_5):=(blk_cell BK114.out 5).trans rfl
              have hcz46_6 : wc.cell? ⟨gb114,6,none⟩ = some (.slice A0_6 l0_6.length c0_6):=(blk_cell BK114.out 6).trans rfl
              have hfz46_0:=blk_frozen BK114.out 0
              have hfz46_1:=blk_frozen BK114.out 1
              have hfz46_2:=blk_frozen BK114.out 2
              have hfz46_3:=blk_frozen BK114.out 3
              have hfz46_4:=blk_frozen BK114.out 4
              have hfz46_5:=blk_frozen BK114.out 5
              have hfz46_6:=blk_frozen BK114.out 6
              go_wp2
              go_ret
              exact ⟨by first | rfl | (simp [errW_none,errW_some] <;> rfl) | (simp [*,errW_none,errW_some] <;> rfl),by repeat (first | (with_reducible first | exact HB.out | apply below_alloc | apply pw_below_drewN | apply below_drew1 | refine below_set ?_ GE114.out) | exact HB.out)⟩
            ·rw [if_neg c37] at H
             have c37b0 : decide (0 ≤ a0_4) = false:=decide_eq_false c37
             clear c37
             obtain rfl:=Option.some.inj H
             have hcz47_0 : wc.cell? ⟨gb114,0,none⟩ = some (.int .i64 a0_0):=(blk_cell BK114.out 0).trans rfl
             have hcz47_1 : wc.cell? ⟨gb114,1,none⟩ = some (.string a0_1):=(blk_cell BK114.out 1).trans rfl
             have hcz47_2 : wc.cell? ⟨gb114,2,none⟩ = some (.string a0_2):=(blk_cell BK114.out 2).trans rfl
             have hcz47_3 : wc.cell? ⟨gb114,3,none⟩ = some (.string a0_3):=(blk_cell BK114.out 3).trans rfl
             have hcz47_4 : wc.cell? ⟨gb114,4,none⟩ = some (.int .i64 a0_4):=(blk_cell BK114.out 4).trans rfl
             have hcz47_5 : wc.cell? ⟨gb114,5,none⟩ = some (.slice A0_5 l0_5.length c0_5):=(blk_cell BK114.out 5).trans rfl
             have hcz47_6 : wc.cell? ⟨gb114,6,none⟩ = some (.slice A0_6 l0_6.length c0_6):=(blk_cell BK114.out 6).trans rfl
             have hfz47_0:=blk_frozen BK114.out 0
             have hfz47_1:=blk_frozen BK114.out 1
             have hfz47_2:=blk_frozen BK114.out 2
             have hfz47_3:=blk_frozen BK114.out 3
             have hfz47_4:=blk_frozen BK114.out 4
             have hfz47_5:=blk_frozen BK114.out 5
             have hfz47_6:=blk_frozen BK114.out 6
             go_wp2
             go_ret
             exact ⟨by first | rfl | (simp [errW_none,errW_some] <;> rfl) | (simp [*,errW_none,errW_some] <;> rfl),by repeat (first | (with_reducible first | exact HB.out | apply below_alloc | apply pw_below_drewN | apply below_drew1 | refine below_set ?_ GE114.out) | exact HB.out)⟩
           ·rw [if_neg c36] at H
            have c36b0 : (a0_2.toList == ([] : List UInt8)) = false:=beq_eq_false_iff_ne.mpr c36
            have c36b1 : (a0_2.toList != ([] : List UInt8)) = true:=bne_iff_ne.mpr c36
            obtain rfl:=Option.some.inj H
            have hcz48_0 : wc.cell? ⟨gb114,0,none⟩ = some (.int .i64 a0_0):=(blk_cell BK114.out 0).trans rfl
            have hcz48_1 : wc.cell? ⟨gb114,1,none⟩ = some (.string a0_1):=(blk_cell BK114.out 1).trans rfl
            have hcz48_2 : wc.cell? ⟨gb114,2,none⟩ = some (.string a0_2):=(blk_cell BK114.out 2).trans rfl
            have hcz48_3 : wc.cell? ⟨gb114,3,none⟩ = some (.string a0_3):=(blk_cell BK114.out 3).trans rfl
            have hcz48_4 : wc.cell? ⟨gb114,4,none⟩ = some (.int .i64 a0_4):=(blk_cell BK114.out 4).trans rfl
            have hcz48_5 : wc.cell? ⟨gb114,5,none⟩ = some (.slice A0_5 l0_5.length c0_5):=(blk_cell BK114.out 5).trans rfl
            have hcz48_6 : wc.cell? ⟨gb114,6,none⟩ = some (.slice A0_6 l0_6.length c0_6):=(blk_cell BK114.out 6).trans rfl
            have hfz48_0:=blk_frozen BK114.out 0
            have hfz48_1:=blk_frozen BK114.out 1
            have hfz48_2:=blk_frozen BK114.out 2
            have hfz48_3:=blk_frozen BK114.out 3
            have hfz48_4:=blk_frozen BK114.out 4
            have hfz48_5:=blk_frozen BK114.out 5
            have hfz48_6:=blk_frozen BK114.out 6
            go_wp2
            go_ret
            exact ⟨by first | rfl | (simp [errW_none,errW_some] <;> rfl) | (simp [*,errW_none,errW_some] <;> rfl),by repeat (first | (with_reducible first | exact HB.out | apply below_alloc | apply pw_below_drewN | apply below_drew1 | refine below_set ?_ GE114.out) | exact HB.out)⟩
          ·rw [if_neg c35] at H
           have c35b0 : (a0_0 == 7) = false:=beq_eq_false_iff_ne.mpr c35
           have c35b1 : (a0_0 != 7) = true:=bne_iff_ne.mpr c35
           by_cases c49 : a0_2.toList = ([] : List UInt8)
           ·rw [if_pos c49] at H
            have c49b0 : (a0_2.toList == ([] : List UInt8)) = true:=beq_iff_eq.mpr c49
            have c49b1 : (a0_2.toList != ([] : List UInt8)) = false:=bne_eq_false_iff_eq.mpr c49
            clear c49
            by_cases c50 : a0_0 ≥ 1
            ·rw [if_pos c50] at H
             have c50b0 : decide (1 ≤ a0_0) = true:=decide_eq_true c50
             clear c50
             obtain rfl:=Option.some.inj H
             have hcz51_0 : wc.cell? ⟨gb114,0,none⟩ = some (.int .i64 a0_0):=(blk_cell BK114.out 0).trans rfl
             have hcz51_1 : wc.cell? ⟨gb114,1,none⟩ = some (.string a0_1):=(blk_cell BK114.out 1).trans rfl
             have hcz51_2 : wc.cell? ⟨gb114,2,none⟩ = some (.string a0_2):=(blk_cell BK114.out 2).trans rfl
             have hcz51_3 : wc.cell? ⟨gb114,3,none⟩ = some (.string a0_3):=(blk_cell BK114.out 3).trans rfl
             have hcz51_4 : wc.cell? ⟨gb114,4,none⟩ = some (.int .i64 a0_4):=(blk_cell BK114.out 4).trans rfl
             have hcz51_5 : wc.cell? ⟨gb114,5,none⟩ = some (.slice A0_5 l0_5.length c0_5):=(blk_cell BK114.out 5).trans rfl
             have hcz51_6 : wc.cell? ⟨gb114,6,none⟩ = some (.slice A0_6 l0_6.length c0_6):=(blk_cell BK114.out 6).trans rfl
             have hfz51_0:=blk_frozen BK114.out 0
             have hfz51_1:=blk_frozen BK114.out 1
             have hfz51_2:=blk_frozen BK114.out 2
             have hfz51_3:=blk_frozen BK114.out 3
             have hfz51_4:=blk_frozen BK114.out 4
             have hfz51_5:=blk_frozen BK114.out 5
             have hfz51_6:=blk_frozen BK114.out 6
             go_wp2
             go_ret
             exact ⟨by first | rfl | (simp [errW_none,errW_some] <;> rfl) | (simp [*,errW_none,errW_some] <;> rfl),by repeat (first | (with_reducible first | exact HB.out | apply below_alloc | apply pw_below_drewN | apply below_drew1 | refine below_set ?_ GE114.out) | exact HB.out)⟩
            ·rw [if_neg c50] at H
             have c50b0 : decide (1 ≤ a0_0) = false:=decide_eq_false c50
             clear c50
             obtain rfl:=Option.some.inj H
             have hcz52_0 : wc.cell? ⟨gb114,0,none⟩ = some (.int .i64 a0_0):=(blk_cell BK114.out 0).trans rfl
             have hcz52_1 : wc.cell? ⟨gb114,1,none⟩ = some (.string a0_1):=(blk_cell BK114.out 1).trans rfl
             have hcz52_2 : wc.cell? ⟨gb114,2,none⟩ = some (.string a0_2):=(blk_cell BK114.out 2).trans rfl
             have hcz52_3 : wc.cell? ⟨gb114,3,none⟩ = some (.string a0_3):=(blk_cell BK114.out 3).trans rfl
             have hcz52_4 : wc.cell? ⟨gb114,4,none⟩ = some (.int .i64 a0_4):=(blk_cell BK114.out 4).trans rfl
             have hcz52_5 : wc.cell? ⟨gb114,5,none⟩ = some (.slice A0_5 l0_5.length c0_5):=(blk_cell BK114.out 5).trans rfl
             have hcz52_6 : wc.cell? ⟨gb114,6,none⟩ = some (.slice A0_6 l0_6.length c0_6):=(blk_cell BK114.out 6).trans rfl
             have hfz52_0:=blk_frozen BK114.out 0
             have hfz52_1:=blk_frozen BK114.out 1
             have hfz52_2:=blk_frozen BK114.out 2
             have hfz52_3:=blk_frozen BK114.out 3
             have hfz52_4:=blk_frozen BK114.out 4
             have hfz52_5:=blk_frozen BK114.out 5
             have hfz52_6:=blk_frozen BK114.out 6
             go_wp2
             go_ret
             exact ⟨by first | rfl | (simp [errW_none,errW_some] <;> rfl) | (simp [*,errW_none,errW_some] <;> rfl),by repeat (first | (with_reducible first | exact HB.out | apply below_alloc | apply pw_below_drewN | apply below_drew1 | refine below_set ?_ GE114.out) | exact HB.out)⟩
           ·rw [if_neg c49] at H
            have c49b0 : (a0_2.toList == ([] : List UInt8)) = false:=beq_eq_false_iff_ne.mpr c49
            have c49b1 : (a0_2.toList != ([] : List UInt8)) = true:=bne_iff_ne.mpr c49
            obtain rfl:=Option.some.inj H
            have hcz53_0 : wc.cell? ⟨gb114,0,none⟩ = some (.int .i64 a0_0):=(blk_cell BK114.out 0).trans rfl
            have hcz53_1 : wc.cell? ⟨gb114,1,none⟩ = some (.string a0_1):=(blk_cell BK114.out 1).trans rfl
            have hcz53_2 : wc.cell? ⟨gb114,2,none⟩ = some (.string a0_2):=(blk_cell BK114.out 2).trans rfl
            have hcz53_3 : wc.cell? ⟨gb114,3,none⟩ = some (.string a0_3):=(blk_cell BK114.out 3).trans rfl
            have hcz53_4 : wc.cell? ⟨gb114,4,none⟩ = some (.int .i64 a0_4):=(blk_cell BK114.out 4).trans rfl
            have hcz53_5 : wc.cell? ⟨gb114,5,none⟩ = some (.slice A0_5 l0_5.length c0_5):=(blk_cell BK114.out 5).trans rfl
            have hcz53_6 : wc.cell? ⟨gb114,6,none⟩ = some (.slice A0_6 l0_6.length c0_6):=(blk_cell BK114.out 6).trans rfl
            have hfz53_0:=blk_frozen BK114.out 0
            have hfz53_1:=blk_frozen BK114.out 1
            have hfz53_2:=blk_frozen BK114.out 2
            have hfz53_3:=blk_frozen BK114.out 3
            have hfz53_4:=blk_frozen BK114.out 4
            have hfz53_5:=blk_frozen BK114.out 5
            have hfz53_6:=blk_frozen BK114.out 6
            go_wp2
            go_ret
            exact ⟨by first | rfl | (simp [errW_none,errW_some] <;> rfl) | (simp [*,errW_none,errW_some] <;> rfl),by repeat (first | (with_reducible first | exact HB.out | apply below_alloc | apply pw_below_drewN | apply below_drew1 | refine below_set ?_ GE114.out) | exact HB.out)⟩
        ·rw [if_neg c25] at H
         have c25b0 : (a0_3.toList == ([] : List UInt8)) = false:=beq_eq_false_iff_ne.mpr c25
         have c25b1 : (a0_3.toList != ([] : List UInt8)) = true:=bne_iff_ne.mpr c25
         obtain rfl:=Option.some.inj H
         have hcz54_0 : wc.cell? ⟨gb114,0,none⟩ = some (.int .i64 a0_0):=(blk_cell BK114.out 0).trans rfl
         have hcz54_1 : wc.cell? ⟨gb114,1,none⟩ = some (.string a0_1):=(blk_cell BK114.out 1).trans rfl
         have hcz54_2 : wc.cell? ⟨gb114,2,none⟩ = some (.string a0_2):=(blk_cell BK114.out 2).trans rfl
         have hcz54_3 : wc.cell? ⟨gb114,3,none⟩ = some (.string a0_3):=(blk_cell BK114.out 3).trans rfl
         have hcz54_4 : wc.cell? ⟨gb114,4,none⟩ = some (.int .i64 a0_4):=(blk_cell BK114.out 4).trans rfl
         have hcz54_5 : wc.cell? ⟨gb114,5,none⟩ = some (.slice A0_5 l0_5.length c0_5):=(blk_cell BK114.out 5).trans rfl
         have hcz54_6 : wc.cell? ⟨gb114,6,none⟩ = some (.slice A0_6 l0_6.length c0_6):=(blk_cell BK114.out 6).trans rfl
         have hfz54_0:=blk_frozen BK114.out 0
         have hfz54_1:=blk_frozen BK114.out 1
         have hfz54_2:=blk_frozen BK114.out 2
         have hfz54_3:=blk_frozen BK114.out 3
         have hfz54_4:=blk_frozen BK114.out 4
         have hfz54_5:=blk_frozen BK114.out 5
         have hfz54_6:=blk_frozen BK114.out 6
         go_wp2
         go_ret
         exact ⟨by first | rfl | (simp [errW_none,errW_some] <;> rfl) | (simp [*,errW_none,errW_some] <;> rfl),by repeat (first | (with_reducible first | exact HB.out | apply below_alloc | apply pw_below_drewN | apply below_drew1 | refine below_set ?_ GE114.out) | exact HB.out)⟩

end Go.Proofs.YthhohbidjhcjeaaDoor.Q
