/- Printed by a program of this place out of the translation: what the functions compute, and their contracts. -/
import Derived.Test.YthhohbidjhcjeaaDoorTQx0
import Derived.Test.YthhohbidjhcjeaaDoorTQx6
namespace Go.Proofs.YthhohbidjhcjeaaDoor.Q
open Go.RowKit Go.Proofs.YthhohbidjhcjeaaDoorW.PrintWords Go.Proofs.YthhohbidjhcjeaaDoorW.PrintLast Go.Proofs.YthhohbidjhcjeaaDoorW.PrintMore
attribute [local go_sem] max2_int min2_int max_two min_two max_three min_three max_four min_four   -- for this text's walks alone
set_option linter.unusedVariables false
set_option linter.unusedSimpArgs false

/-! ### counterpaneref10_apart: function 56 -/
def counterpaneref10_apart.f (a0_0 : Int) (a0_1 : ByteArray) (a0_2 : ByteArray) (a0_3 : ByteArray) (a0_4 : Int) (l0_5 : List ByteArray) (l0_6 : List ByteArray) (a1 : ByteArray) : Option (Bool):=(counterpaneref04_Apart.f a0_1 a1).bind fun t220 => (if t220 = true then ((counterpaneref04_Apart.f a0_2 a1).bind fun t221 => (some t221)) else (some false))
set_option maxHeartbeats 8000000 in
set_option maxRecDepth 100000 in
theorem counterpaneref10_apart.calls (a0_0 : Int) (a0_1 : ByteArray) (a0_2 : ByteArray) (a0_3 : ByteArray) (a0_4 : Int) (A0_5 : Option Addr) (c0_5 : Nat) (l0_5 : List ByteArray) (A0_6 : Option Addr) (c0_6 : Nat) (l0_6 : List ByteArray) (a1 : ByteArray) (r : Bool) (w : World) (hr0_5 : Kd.C Kd.string w A0_5 l0_5.length l0_5) (hc0_5 : l0_5.length ≤ c0_5) (hr0_6 : Kd.C Kd.string w A0_6 l0_6.length l0_6) (hc0_6 : l0_6.length ≤ c0_6) (h : counterpaneref10_apart.f a0_0 a0_1 a0_2 a0_3 a0_4 l0_5 l0_6 a1 = some r) :
  Calls Tryd.prog 56 #[.agg #[.int .i64 a0_0,.string a0_1,.string a0_2,.string a0_3,.int .i64 a0_4,.slice A0_5 l0_5.length c0_5,.slice A0_6 l0_6.length c0_6],.string a1] w fun e w' => e = .returned (.bool r) ∧ Below w.heap.size w w':=by
 have hu24:=Tryd.underlying24
 have HR0_5:=Aside0.mk hr0_5
 have HC0_5:=Aside0.mk hc0_5
 clear hr0_5 hc0_5
 have HR0_6:=Aside0.mk hr0_6
 have HC0_6:=Aside0.mk hc0_6
 clear hr0_6 hc0_6
 have HB:=Aside0.mk (Below.refl w.heap.size w)
 have H : ((counterpaneref04_Apart.f a0_1 a1).bind fun t220 => (if t220 = true then ((counterpaneref04_Apart.f a0_2 a1).bind fun t221 => (some t221)) else (some false))) = some r:=h
 clear h
 replace H:=Option.bind_eq_some_iff.mp H
 obtain ⟨t220,A30,H⟩:=H
 replace H : (if t220 = true then ((counterpaneref04_Apart.f a0_2 a1).bind fun t221 => (some t221)) else (some false)) = some r:=H
 have A3:=Aside0.mk A30
 clear A30
 by_cases c4 : t220 = true
 ·subst c4
  have H1 : ((counterpaneref04_Apart.f a0_2 a1).bind fun t221 => (some t221)) = some r:=by rw [if_pos rfl] at H; exact H
  clear H
  have H:=H1
  clear H1
  replace H:=Option.bind_eq_some_iff.mp H
  obtain ⟨t221,A50,H⟩:=H
  replace H : (some t221) = some r:=H
  have A5:=Aside0.mk A50
  clear A50
  obtain rfl:=Option.some.inj H
  go_enter Tryd.func56,Tryd.ntmps56
  go_wp2_with (first | ((with_reducible refine gate_dst (N:=2) rfl ?_); refine box_event ?hg (N:=2) ?hd (cs:=#[.int .i64 a0_0,.string a0_1,.string a0_2,.string a0_3,.int .i64 a0_4,.slice A0_5 l0_5.length c0_5,.slice A0_6 l0_6.length c0_6]) (t:=24) ?hr ?_; (case hd => rfl); (case hg => rfl); (case hr => first | (go_simp; done) | (go_simp; rfl)); intro gb219 hg w6 hbox hb; have n0_:=Aside0.mk (below_step (by repeat (first | (with_reducible first | exact HB.out | apply below_alloc | apply pw_below_drewN | apply below_drew1) | exact HB.out)) hb); have n1_:=Aside0.mk (hbox); have n2_:=Aside0.mk ((by rw [hg]; exact (below_size (by repeat (first | (with_reducible first | exact HB.out | apply below_alloc | apply pw_below_drewN | apply below_drew1) | exact HB.out))) : w.heap.size ≤ gb219)); have n3_:=Aside0.mk ((by rw [hg]; exact (below_size (by repeat (first | (with_reducible first | exact HB.out | apply below_alloc | apply pw_below_drewN | apply below_drew1) | exact HB.out))) : w.heap.size ≤ gb219)); clear HB; have HB:=n0_; have BK219:=n1_; have GW219:=n2_; have GE219:=n3_; clear n0_ n1_ n2_ n3_; clear hb hbox hg; have hcz7_0 : w6.cell? ⟨gb219,0,none⟩ = some (.int .i64 a0_0):=(blk_cell BK219.out 0).trans rfl; have hcz7_1 : w6.cell? ⟨gb219,1,none⟩ = some (.string a0_1):=(blk_cell BK219.out 1).trans rfl; have hcz7_2 : w6.cell? ⟨gb219,2,none⟩ = some (.string a0_2):=(blk_cell BK219.out 2).trans rfl; have hcz7_3 : w6.cell? ⟨gb219,3,none⟩ = some (.string a0_3):=(blk_cell BK219.out 3).trans rfl; have hcz7_4 : w6.cell? ⟨gb219,4,none⟩ = some (.int .i64 a0_4):=(blk_cell BK219.out 4).trans rfl; have hcz7_5 : w6.cell? ⟨gb219,5,none⟩ = some (.slice A0_5 l0_5.length c0_5):=(blk_cell BK219.out 5).trans rfl; have hcz7_6 : w6.cell? ⟨gb219,6,none⟩ = some (.slice A0_6 l0_6.length c0_6):=(blk_cell BK219.out 6).trans rfl; have hfz7_0:=blk_frozen BK219.out 0; have hfz7_1:=blk_frozen BK219.out 1; have hfz7_2:=blk_frozen BK219.out 2; have hfz7_3:=blk_frozen BK219.out 3; have hfz7_4:=blk_frozen BK219.out 4; have hfz7_5:=blk_frozen BK219.out 5; have hfz7_6:=blk_frozen BK219.out 6) | ((with_reducible refine gate_callee (f:=28) rfl ?_); refine goesL_ (some 8) rfl rfl Tryd.func28 (by kernel_rfl) rfl #[.string a0_1,.string a1] rfl (by (try simp only [List.map_toArray,List.map_cons,List.map_nil]); first | done | rfl | (simp only [List.length_drop,List.length_take]; rfl)) ?_; (with_reducible refine (counterpaneref04_Apart.calls a0_1 a1 true _ A3.out).mono ?_); rintro e w' ⟨rfl,⟨nd,rfl⟩⟩; refine ⟨_,rfl,?_⟩) | (go_at_call 28; (with_reducible refine (counterpaneref04_Apart.calls a0_2 a1 t221 _ A5.out).mono ?_); rintro e w' ⟨rfl,⟨nd,rfl⟩⟩))
  go_ret
  exact ⟨by first | rfl | (simp [errW_none,errW_some] <;> rfl) | (simp [*,errW_none,errW_some] <;> rfl),by repeat (first | (with_reducible first | exact HB.out | apply below_alloc | apply pw_below_drewN | apply below_drew1 | refine below_set ?_ GE219.out) | exact HB.out)⟩
 ·replace c4:=Bool.eq_false_iff.mpr c4
  subst c4
  have H1 : (some false) = some r:=by rw [if_neg (show ¬ (false = true) by decide)] at H; exact H
  clear H
  have H:=H1
  clear H1
  obtain rfl:=Option.some.inj H
  go_enter Tryd.func56,Tryd.ntmps56
  go_wp2_with (first | ((with_reducible refine gate_dst (N:=2) rfl ?_); refine box_event ?hg (N:=2) ?hd (cs:=#[.int .i64 a0_0,.string a0_1,.string a0_2,.string a0_3,.int .i64 a0_4,.slice A0_5 l0_5.length c0_5,.slice A0_6 l0_6.length c0_6]) (t:=24) ?hr ?_; (case hd => rfl); (case hg => rfl); (case hr => first | (go_simp; done) | (go_simp; rfl)); intro gb219 hg w8 hbox hb; have n0_:=Aside0.mk (below_step (by repeat (first | (with_reducible first | exact HB.out | apply below_alloc | apply pw_below_drewN | apply below_drew1) | exact HB.out)) hb); have n1_:=Aside0.mk (hbox); have n2_:=Aside0.mk ((by rw [hg]; exact (below_size (by repeat (first | (with_reducible first | exact HB.out | apply below_alloc | apply pw_below_drewN | apply below_drew1) | exact HB.out))) : w.heap.size ≤ gb219)); have n3_:=Aside0.mk ((by rw [hg]; exact (below_size (by repeat (first | (with_reducible first | exact HB.out | apply below_alloc | apply pw_below_drewN | apply below_drew1) | exact HB.out))) : w.heap.size ≤ gb219)); clear HB; have HB:=n0_; have BK219:=n1_; have GW219:=n2_; have GE219:=n3_; clear n0_ n1_ n2_ n3_; clear hb hbox hg; have hcz9_0 : w8.cell? ⟨gb219,0,none⟩ = some (.int .i64 a0_0):=(blk_cell BK219.out 0).trans rfl; have hcz9_1 : w8.cell? ⟨gb219,1,none⟩ = some (.string a0_1):=(blk_cell BK219.out 1).trans rfl; have hcz9_2 : w8.cell? ⟨gb219,2,none⟩ = some (.string a0_2):=(blk_cell BK219.out 2).trans rfl; have hcz9_3 : w8.cell? ⟨gb219,3,none⟩ = some (.string a0_3):=(blk_cell BK219.out 3).trans rfl; have hcz9_4 : w8.cell? ⟨gb219,4,none⟩ = some (.int .i64 a0_4):=(blk_cell BK219.out 4).trans rfl; have hcz9_5 : w8.cell? ⟨gb219,5,none⟩ = some (.slice A0_5 l0_5.length c0_5):=(blk_cell BK219.out 5).trans rfl; have hcz9_6 : w8.cell? ⟨gb219,6,none⟩ = some (.slice A0_6 l0_6.length c0_6):=(blk_cell BK219.out 6).trans rfl; have hfz9_0:=blk_frozen BK219.out 0; have hfz9_1:=blk_frozen BK219.out 1; have hfz9_2:=blk_frozen BK219.out 2; have hfz9_3:=blk_frozen BK219.out 3; have hfz9_4:=blk_frozen BK219.out 4; have hfz9_5:=blk_frozen BK219.out 5; have hfz9_6:=blk_frozen BK219.out 6) | ((with_reducible refine gate_callee (f:=28) rfl ?_); refine goesL_ (some 8) rfl rfl Tryd.func28 (by kernel_rfl) rfl #[.string a0_1,.string a1] rfl (by (try simp only [List.map_toArray,List.map_cons,List.map_nil]); first | done | rfl | (simp only [List.length_drop,List.length_take]; rfl)) ?_; (with_reducible refine (counterpaneref04_Apart.calls a0_1 a1 false _ A3.out).mono ?_); rintro e w' ⟨rfl,⟨nd,rfl⟩⟩; refine ⟨_,rfl,?_⟩))
  go_ret
  exact ⟨by first | rfl | (simp [errW_none,errW_some] <;> rfl) | (simp [*,errW_none,errW_some] <;> rfl),by repeat (first | (with_reducible first | exact HB.out | apply below_alloc | apply pw_below_drewN | apply below_drew1 | refine below_set ?_ GE219.out) | exact HB.out)⟩

/-! ### counterpaneref10_change: function 57 -/
def counterpaneref10_change.f (a0_0 : Int) (a0_1 : ByteArray) (a0_2 : ByteArray) (a0_3 : ByteArray) (a0_4 : Int) (l0_5 : List ByteArray) (l0_6 : List ByteArray) : Option (Bool):=if a0_0 ≥ 7 then (some (decide (a0_0 ≤ 9))) else (some false)
set_option maxHeartbeats 8000000 in
set_option maxRecDepth 100000 in
theorem counterpaneref10_change.calls (a0_0 : Int) (a0_1 : ByteArray) (a0_2 : ByteArray) (a0_3 : ByteArray) (a0_4 : Int) (A0_5 : Option Addr) (c0_5 : Nat) (l0_5 : List ByteArray) (A0_6 : Option Addr) (c0_6 : Nat) (l0_6 : List ByteArray) (r : Bool) (w : World) (hr0_5 : Kd.C Kd.string w A0_5 l0_5.length l0_5) (hc0_5 : l0_5.length ≤ c0_5) (hr0_6 : Kd.C Kd.string w A0_6 l0_6.length l0_6) (hc0_6 : l0_6.length ≤ c0_6) (h : counterpaneref10_change.f a0_0 a0_1 a0_2 a0_3 a0_4 l0_5 l0_6 = some r) :
  Calls Tryd.prog 57 #[.agg #[.int .i64 a0_0,.string a0_1,.string a0_2,.string a0_3,.int .i64 a0_4,.slice A0_5 l0_5.length c0_5,.slice A0_6 l0_6.length c0_6]] w fun e w' => e = .returned (.bool r) ∧ Below w.heap.size w w':=by
 have hu24:=Tryd.underlying24
 have HR0_5:=Aside0.mk hr0_5
 have HC0_5:=Aside0.mk hc0_5
 clear hr0_5 hc0_5
 have HR0_6:=Aside0.mk hr0_6
 have HC0_6:=Aside0.mk hc0_6
 clear hr0_6 hc0_6
 have HB:=Aside0.mk (Below.refl w.heap.size w)
 have H : (if a0_0 ≥ 7 then (some (decide (a0_0 ≤ 9))) else (some false)) = some r:=h
 clear h
 by_cases c2 : a0_0 ≥ 7
 ·rw [if_pos c2] at H
  have c2b0 : decide (7 ≤ a0_0) = true:=decide_eq_true c2
  clear c2
  obtain rfl:=Option.some.inj H
  go_enter Tryd.func57,Tryd.ntmps57
  go_wp2_with (first | ((with_reducible refine gate_dst (N:=1) rfl ?_); refine box_event ?hg (N:=1) ?hd (cs:=#[.int .i64 a0_0,.string a0_1,.string a0_2,.string a0_3,.int .i64 a0_4,.slice A0_5 l0_5.length c0_5,.slice A0_6 l0_6.length c0_6]) (t:=24) ?hr ?_; (case hd => rfl); (case hg => rfl); (case hr => first | (go_simp; done) | (go_simp; rfl)); intro gb222 hg w3 hbox hb; have n0_:=Aside0.mk (below_step (by repeat (first | (with_reducible first | exact HB.out | apply below_alloc | apply pw_below_drewN | apply below_drew1) | exact HB.out)) hb); have n1_:=Aside0.mk (hbox); have n2_:=Aside0.mk ((by rw [hg]; exact (below_size (by repeat (first | (with_reducible first | exact HB.out | apply below_alloc | apply pw_below_drewN | apply below_drew1) | exact HB.out))) : w.heap.size ≤ gb222)); have n3_:=Aside0.mk ((by rw [hg]; exact (below_size (by repeat (first | (with_reducible first | exact HB.out | apply below_alloc | apply pw_below_drewN | apply below_drew1) | exact HB.out))) : w.heap.size ≤ gb222)); clear HB; have HB:=n0_; have BK222:=n1_; have GW222:=n2_; have GE222:=n3_; clear n0_ n1_ n2_ n3_; clear hb hbox hg; have hcz4_0 : w3.cell? ⟨gb222,0,none⟩ = some (.int .i64 a0_0):=(blk_cell BK222.out 0).trans rfl; have hcz4_1 : w3.cell? ⟨gb222,1,none⟩ = some (.string a0_1):=(blk_cell BK222.out 1).trans rfl; have hcz4_2 : w3.cell? ⟨gb222,2,none⟩ = some (.string a0_2):=(blk_cell BK222.out 2).trans rfl; have hcz4_3 : w3.cell? ⟨gb222,3,none⟩ = some (.string a0_3):=(blk_cell BK222.out 3).trans rfl; have hcz4_4 : w3.cell? ⟨gb222,4,none⟩ = some (.int .i64 a0_4):=(blk_cell BK222.out 4).trans rfl; have hcz4_5 : w3.cell? ⟨gb222,5,none⟩ = some (.slice A0_5 l0_5.length c0_5):=(blk_cell BK222.out 5).trans rfl; have hcz4_6 : w3.cell? ⟨gb222,6,none⟩ = some (.slice A0_6 l0_6.length c0_6):=(blk_cell BK222.out 6).trans rfl; have hfz4_0:=blk_frozen BK222.out 0; have hfz4_1:=blk_frozen BK222.out 1; have hfz4_2:=blk_frozen BK222.out 2; have hfz4_3:=blk_frozen BK222.out 3; have hfz4_4:=blk_frozen BK222.out 4; have hfz4_5:=blk_frozen BK222.out 5; have hfz4_6:=blk_frozen BK222.out 6))
  go_ret
  exact ⟨by first | rfl | (simp [errW_none,errW_some] <;> rfl) | (simp [*,errW_none,errW_some] <;> rfl),by repeat (first | (with_reducible first | exact HB.out | apply below_alloc | apply pw_below_drewN | apply below_drew1 | refine below_set ?_ GE222.out) | exact HB.out)⟩
 ·rw [if_neg c2] at H
  have c2b0 : decide (7 ≤ a0_0) = false:=decide_eq_false c2
  clear c2
  obtain rfl:=Option.some.inj H
  go_enter Tryd.func57,Tryd.ntmps57
  go_wp2_with (first | ((with_reducible refine gate_dst (N:=1) rfl ?_); refine box_event ?hg (N:=1) ?hd (cs:=#[.int .i64 a0_0,.string a0_1,.string a0_2,.string a0_3,.int .i64 a0_4,.slice A0_5 l0_5.length c0_5,.slice A0_6 l0_6.length c0_6]) (t:=24) ?hr ?_; (case hd => rfl); (case hg => rfl); (case hr => first | (go_simp; done) | (go_simp; rfl)); intro gb222 hg w5 hbox hb; have n0_:=Aside0.mk (below_step (by repeat (first | (with_reducible first | exact HB.out | apply below_alloc | apply pw_below_drewN | apply below_drew1) | exact HB.out)) hb); have n1_:=Aside0.mk (hbox); have n2_:=Aside0.mk ((by rw [hg]; exact (below_size (by repeat (first | (with_reducible first | exact HB.out | apply below_alloc | apply pw_below_drewN | apply below_drew1) | exact HB.out))) : w.heap.size ≤ gb222)); have n3_:=Aside0.mk ((by rw [hg]; exact (below_size (by repeat (first | (with_reducible first | exact HB.out | apply below_alloc | apply pw_below_drewN | apply below_drew1) | exact HB.out))) : w.heap.size ≤ gb222)); clear HB; have HB:=n0_; have BK222:=n1_; have GW222:=n2_; have GE222:=n3_; clear n0_ n1_ n2_ n3_; clear hb hbox hg; have hcz6_0 : w5.cell? ⟨gb222,0,none⟩ = some (.int .i64 a0_0):=(blk_cell BK222.out 0).trans rfl; have hcz6_1 : w5.cell? ⟨gb222,1,none⟩ = some (.string a0_1):=(blk_cell BK222.out 1).trans rfl; have hcz6_2 : w5.cell? ⟨gb222,2,none⟩ = some (.string a0_2):=(blk_cell BK222.out 2).trans rfl; have hcz6_3 : w5.cell? ⟨gb222,3,none⟩ = some (.string a0_3):=(blk_cell BK222.out 3).trans rfl; have hcz6_4 : w5.cell? ⟨gb222,4,none⟩ = some (.int .i64 a0_4):=(blk_cell BK222.out 4).trans rfl; have hcz6_5 : w5.cell? ⟨gb222,5,none⟩ = some (.slice A0_5 l0_5.length c0_5):=(blk_cell BK222.out 5).trans rfl; have hcz6_6 : w5.cell? ⟨gb222,6,none⟩ = some (.slice A0_6 l0_6.length c0_6):=(blk_cell BK222.out 6).trans rfl; have hfz6_0:=blk_frozen BK222.out 0; have hfz6_1:=blk_frozen BK222.out 1; have hfz6_2:=blk_frozen BK222.out 2; have hfz6_3:=blk_frozen BK222.out 3; have hfz6_4:=blk_frozen BK222.out 4; have hfz6_5:=blk_frozen BK222.out 5; have hfz6_6:=blk_frozen BK222.out 6))
  go_ret
  exact ⟨by first | rfl | (simp [errW_none,errW_some] <;> rfl) | (simp [*,errW_none,errW_some] <;> rfl),by repeat (first | (with_reducible first | exact HB.out | apply below_alloc | apply pw_below_drewN | apply below_drew1 | refine below_set ?_ GE222.out) | exact HB.out)⟩

/-! ### counterpaneref04_Moved: function 58 -/
def counterpaneref04_Moved.f (a0 : ByteArray) (a1 : ByteArray) (a2 : ByteArray) : Option (ByteArray × Bool):=(counterpaneref04_Within.f a0 a1).bind fun t223 => (if t223 = true then (if 0 ≤ (a1.size : Int) then (if (a1.size : Int) ≤ (a0.size : Int) then (if a2.size + (a0.extract ((a1.size : Int) : Int).toNat a0.size).size ≤ 9223372036854775807 then (some (a2 ++ (a0.extract ((a1.size : Int) : Int).toNat a0.size),true)) else (none)) else (none)) else (none)) else (some ((⟨#[]⟩ : ByteArray),false)))
set_option maxHeartbeats 8000000 in
set_option maxRecDepth 100000 in
theorem counterpaneref04_Moved.calls (a0 : ByteArray) (a1 : ByteArray) (a2 : ByteArray) (r1 : ByteArray) (r2 : Bool) (w : World) (h : counterpaneref04_Moved.f a0 a1 a2 = some (r1,r2)) :
  Calls Tryd.prog 58 #[.string a0,.string a1,.string a2] w fun e w' => e = .returned (.tuple #[.string r1,.bool r2]) ∧ Drawn0 w w':=by
 have H : ((counterpaneref04_Within.f a0 a1).bind fun t223 => (if t223 = true then (if 0 ≤ (a1.size : Int) then (if (a1.size : Int) ≤ (a0.size : Int) then (if a2.size + (a0.extract ((a1.size : Int) : Int).toNat a0.size).size ≤ 9223372036854775807 then (some (a2 ++ (a0.extract ((a1.size : Int) : Int).toNat a0.size),true)) else (none)) else (none)) else (none)) else (some ((⟨#[]⟩ : ByteArray),false)))) = some (r1,r2):=h
 clear h
 replace H:=Option.bind_eq_some_iff.mp H
 obtain ⟨t223,A40,H⟩:=H
 replace H : (if t223 = true then (if 0 ≤ (a1.size : Int) then (if (a1.size : Int) ≤ (a0.size : Int) then (if a2.size + (a0.extract ((a1.size : Int) : Int).toNat a0.size).size ≤ 9223372036854775807 then (some (a2 ++ (a0.extract ((a1.size : Int) : Int).toNat a0.size),true)) else (none)) else (none)) else (none)) else (some ((⟨#[]⟩ : ByteArray),false))) = some (r1,r2):=H
 have A4:=Aside0.mk A40
 clear A40
 by_cases c5 : t223 = true
 ·subst c5
  have H1 : (if 0 ≤ (a1.size : Int) then (if (a1.size : Int) ≤ (a0.size : Int) then (if a2.size + (a0.extract ((a1.size : Int) : Int).toNat a0.size).size ≤ 9223372036854775807 then (some (a2 ++ (a0.extract ((a1.size : Int) : Int).toNat a0.size),true)) else (none)) else (none)) else (none)) = some (r1,r2):=by rw [if_pos rfl] at H; exact H
  clear H
  have H:=H1
  clear H1
  by_cases c6 : 0 ≤ (a1.size : Int)
  ·rw [if_pos c6] at H
   have c6b0:=eq_true c6
   have c6b1 : decide (0 ≤ (a1.size : Int)) = true:=decide_eq_true c6
   clear c6
   by_cases c7 : (a1.size : Int) ≤ (a0.size : Int)
   ·rw [if_pos c7] at H
    have c7b0:=eq_true c7
    have c7b1 : decide ((a1.size : Int) ≤ (a0.size : Int)) = true:=decide_eq_true c7
    clear c7
    by_cases c8 : a2.size + (a0.extract ((a1.size : Int) : Int).toNat a0.size).size ≤ 9223372036854775807
    ·rw [if_pos c8] at H
     have c8b0:=eq_true c8
     have c8b1 : decide (a2.size + (a0.extract ((a1.size : Int) : Int).toNat a0.size).size ≤ 9223372036854775807) = true:=decide_eq_true c8
     try have c8b2 : (9223372036854775807 < a2.size + (a0.extract ((a1.size : Int) : Int).toNat a0.size).size) = False:=eq_false (Nat.not_lt.2 c8)
     simp only [Option.some.injEq,Prod.mk.injEq] at H
     obtain ⟨rfl,rfl⟩:=H
     (try simp only [Int.toNat_natCast] at *)
     go_enter Tryd.func58,Tryd.ntmps58
     go_wp2_with (first | ((with_reducible refine gate_callee (f:=59) rfl ?_); refine goesL_ (some 10) rfl rfl Tryd.func59 (by kernel_rfl) rfl #[.string a0,.string a1] rfl (by (try simp only [List.map_toArray,List.map_cons,List.map_nil]); first | done | rfl | (simp only [List.length_drop,List.length_take]; rfl)) ?_; (with_reducible refine (counterpaneref04_Within.calls a0 a1 true _ A4.out).mono ?_); rintro e w' ⟨rfl,⟨nd,rfl⟩⟩; refine ⟨_,rfl,?_⟩))
     go_ret2
     exact ⟨by first | rfl | (simp; done) | (simp [*]; done) | (simp_all [bt]; done) | (simp [show ∀ l : List UInt8,(l != []) = !l.isEmpty from fun l => by cases l <;> rfl]; done),by repeat (first | exact Drawn0.refl _ | apply Drawn0.step)⟩
    ·rw [if_neg c8] at H
     exact absurd H (by simp)
   ·rw [if_neg c7] at H
    exact absurd H (by simp)
  ·rw [if_neg c6] at H
   exact absurd H (by simp)
 ·replace c5:=Bool.eq_false_iff.mpr c5
  subst c5
  have H1 : (some ((⟨#[]⟩ : ByteArray),false)) = some (r1,r2):=by rw [if_neg (show ¬ (false = true) by decide)] at H; exact H
  clear H
  have H:=H1
  clear H1
  simp only [Option.some.injEq,Prod.mk.injEq] at H
  obtain ⟨rfl,rfl⟩:=H
  (try simp only [Int.toNat_natCast] at *)
  go_enter Tryd.func58,Tryd.ntmps58
  go_wp2_with (first | ((with_reducible refine gate_callee (f:=59) rfl ?_); refine goesL_ (some 10) rfl rfl Tryd.func59 (by kernel_rfl) rfl #[.string a0,.string a1] rfl (by (try simp only [List.map_toArray,List.map_cons,List.map_nil]); first | done | rfl | (simp only [List.length_drop,List.length_take]; rfl)) ?_; (with_reducible refine (counterpaneref04_Within.calls a0 a1 false _ A4.out).mono ?_); rintro e w' ⟨rfl,⟨nd,rfl⟩⟩; refine ⟨_,rfl,?_⟩))
  go_ret2
  exact ⟨by first | rfl | (simp; done) | (simp [*]; done) | (simp_all [bt]; done) | (simp [show ∀ l : List UInt8,(l != []) = !l.isEmpty from fun l => by cases l <;> rfl]; done),by repeat (first | exact Drawn0.refl _ | apply Drawn0.step)⟩

/-! ### counterpaneref10_addition: function 60 -/
def counterpaneref10_addition.f (a0_0 : Int) (a0_1 : ByteArray) (a0_2 : ByteArray) (a0_3 : ByteArray) (a0_4 : Int) (l0_5 : List ByteArray) (l0_6 : List ByteArray) : Option (Bool):=some (decide (a0_0 ≤ 6))
set_option maxHeartbeats 8000000 in
set_option maxRecDepth 100000 in
theorem counterpaneref10_addition.calls (a0_0 : Int) (a0_1 : ByteArray) (a0_2 : ByteArray) (a0_3 : ByteArray) (a0_4 : Int) (A0_5 : Option Addr) (c0_5 : Nat) (l0_5 : List ByteArray) (A0_6 : Option Addr) (c0_6 : Nat) (l0_6 : List ByteArray) (r : Bool) (w : World) (hr0_5 : Kd.C Kd.string w A0_5 l0_5.length l0_5) (hc0_5 : l0_5.length ≤ c0_5) (hr0_6 : Kd.C Kd.string w A0_6 l0_6.length l0_6) (hc0_6 : l0_6.length ≤ c0_6) (h : counterpaneref10_addition.f a0_0 a0_1 a0_2 a0_3 a0_4 l0_5 l0_6 = some r) :
  Calls Tryd.prog 60 #[.agg #[.int .i64 a0_0,.string a0_1,.string a0_2,.string a0_3,.int .i64 a0_4,.slice A0_5 l0_5.length c0_5,.slice A0_6 l0_6.length c0_6]] w fun e w' => e = .returned (.bool r) ∧ Below w.heap.size w w':=by
 have hu24:=Tryd.underlying24
 have HR0_5:=Aside0.mk hr0_5
 have HC0_5:=Aside0.mk hc0_5
 clear hr0_5 hc0_5
 have HR0_6:=Aside0.mk hr0_6
 have HC0_6:=Aside0.mk hc0_6
 clear hr0_6 hc0_6
 have HB:=Aside0.mk (Below.refl w.heap.size w)
 have H : (some (decide (a0_0 ≤ 6))) = some r:=h
 clear h
 obtain rfl:=Option.some.inj H
 go_enter Tryd.func60,Tryd.ntmps60
 go_wp2_with (first | ((with_reducible refine gate_dst (N:=1) rfl ?_); refine box_event ?hg (N:=1) ?hd (cs:=#[.int .i64 a0_0,.string a0_1,.string a0_2,.string a0_3,.int .i64 a0_4,.slice A0_5 l0_5.length c0_5,.slice A0_6 l0_6.length c0_6]) (t:=24) ?hr ?_; (case hd => rfl); (case hg => rfl); (case hr => first | (go_simp; done) | (go_simp; rfl)); intro gb224 hg w2 hbox hb; have n0_:=Aside0.mk (below_step (by repeat (first | (with_reducible first | exact HB.out | apply below_alloc | apply pw_below_drewN | apply below_drew1) | exact HB.out)) hb); have n1_:=Aside0.mk (hbox); have n2_:=Aside0.mk ((by rw [hg]; exact (below_size (by repeat (first | (with_reducible first | exact HB.out | apply below_alloc | apply pw_below_drewN | apply below_drew1) | exact HB.out))) : w.heap.size ≤ gb224)); have n3_:=Aside0.mk ((by rw [hg]; exact (below_size (by repeat (first | (with_reducible first | exact HB.out | apply below_alloc | apply pw_below_drewN | apply below_drew1) | exact HB.out))) : w.heap.size ≤ gb224)); clear HB; have HB:=n0_; have BK224:=n1_; have GW224:=n2_; have GE224:=n3_; clear n0_ n1_ n2_ n3_; clear hb hbox hg; have hcz3_0 : w2.cell? ⟨gb224,0,none⟩ = some (.int .i64 a0_0):=(blk_cell BK224.out 0).trans rfl; have hcz3_1 : w2.cell? ⟨gb224,1,none⟩ = some (.string a0_1):=(blk_cell BK224.out 1).trans rfl; have hcz3_2 : w2.cell? ⟨gb224,2,none⟩ = some (.string a0_2):=(blk_cell BK224.out 2).trans rfl; have hcz3_3 : w2.cell? ⟨gb224,3,none⟩ = some (.string a0_3):=(blk_cell BK224.out 3).trans rfl; have hcz3_4 : w2.cell? ⟨gb224,4,none⟩ = some (.int .i64 a0_4):=(blk_cell BK224.out 4).trans rfl; have hcz3_5 : w2.cell? ⟨gb224,5,none⟩ = some (.slice A0_5 l0_5.length c0_5):=(blk_cell BK224.out 5).trans rfl; have hcz3_6 : w2.cell? ⟨gb224,6,none⟩ = some (.slice A0_6 l0_6.length c0_6):=(blk_cell BK224.out 6).trans rfl; have hfz3_0:=blk_frozen BK224.out 0; have hfz3_1:=blk_frozen BK224.out 1; have hfz3_2:=blk_frozen BK224.out 2; have hfz3_3:=blk_frozen BK224.out 3; have hfz3_4:=blk_frozen BK224.out 4; have hfz3_5:=blk_frozen BK224.out 5; have hfz3_6:=blk_frozen BK224.out 6))
 go_ret
 exact ⟨by first | rfl | (simp [errW_none,errW_some] <;> rfl) | (simp [*,errW_none,errW_some] <;> rfl),by repeat (first | (with_reducible first | exact HB.out | apply below_alloc | apply pw_below_drewN | apply below_drew1 | refine below_set ?_ GE224.out) | exact HB.out)⟩

-- NOT PRINTED: function 25 (counterpaneref10_Commute)

-- NOT PRINTED: function 27 (counterpaneref10_Past)

-- NOT PRINTED: function 4 (counterpanelaw10_CommuteTells)

-- NOT PRINTED: function 5 (counterpanelaw10_CommuteBack)

-- NOT PRINTED: function 6 (counterpanelaw10_CommuteApart)

-- NOT PRINTED: function 7 (counterpanelaw10_CommuteInverse)

-- NOT PRINTED: function 8 (counterpanelaw10_CommuteLines)

-- NOT PRINTED: function 9 (counterpanelaw10_CommuteOver)

end Go.Proofs.YthhohbidjhcjeaaDoor.Q
