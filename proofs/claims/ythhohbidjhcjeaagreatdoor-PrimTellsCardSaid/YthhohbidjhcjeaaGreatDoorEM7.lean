/- Printed by a program of this place out of the translation: what the functions compute, and their contracts. -/
import Derived.Test.YthhohbidjhcjeaaGreatDoorEM1
import Derived.Test.YthhohbidjhcjeaaGreatDoorEM5
import Derived.Test.YthhohbidjhcjeaaGreatDoorEM6
import Derived.Test.YthhohbidjhcjeaaGreatDoorEM3
import Derived.Test.YthhohbidjhcjeaaGreatDoorEM4
namespace Go.Proofs.YthhohbidjhcjeaaGreatDoor.Q
open Go.RowKit Go.Proofs.YthhohbidjhcjeaaGreatDoorW.PrintWords Go.Proofs.YthhohbidjhcjeaaGreatDoorW.PrintLast Go.Proofs.YthhohbidjhcjeaaGreatDoorW.PrintMore
attribute [local go_sem] max2_int min2_int max_two min_two max_three min_three max_four min_four   -- for this text's walks alone
set_option linter.unusedVariables false
set_option linter.unusedSimpArgs false

def counterpaneref07_Find.l0 : Nat → List (S41) → ByteArray → Int → Option (ByteArray × Int × List ByteArray × ByteArray × Bool)
 | 0,_,_,_ => none
 | k + 1,x0,x1,x6 => if x6 < (x0.length : Int) then (if 0 ≤ x6 then (if ((rd_T41 x0 x6).f0).toList = x1.toList then (some ((rd_T41 x0 x6).f0,(rd_T41 x0 x6).f1,(rd_T41 x0 x6).f2,(rd_T41 x0 x6).f3,true)) else (counterpaneref07_Find.l0 k x0 x1 (wrap64 (x6 + 1)))) else (none)) else (some ((⟨#[]⟩ : ByteArray),0,([] : List ByteArray),(⟨#[]⟩ : ByteArray),false))
def counterpaneref07_Find.f (k : Nat) (l0 : List (S41)) (a1 : ByteArray) : Option (ByteArray × Int × List ByteArray × ByteArray × Bool):=counterpaneref07_Find.l0 k l0 a1 0
theorem counterpaneref07_Find.mono_l : ∀ k,(∀ y0 y1 y2,LeO (counterpaneref07_Find.l0 k y0 y1 y2) (counterpaneref07_Find.l0 (k + 1) y0 y1 y2))
 | 0 => fun _ _ _ r h => by simp [counterpaneref07_Find.l0] at h
 | k + 1 => by
  have ih0:=counterpaneref07_Find.mono_l k
  ·intro y0 y1 y2
   unfold counterpaneref07_Find.l0
   repeat' first
   | (with_reducible exact ih0 _ _ _)
   | (with_reducible exact LeO.refl _)
   | (with_reducible exact LeO.none _)
   | (with_reducible refine LeO.ite ?_ ?_)
   | (with_reducible refine LeO.bind ?_ (fun _ => ?_))
   | exact ih0 _ _ _
   | exact LeO.none _
   | refine LeO.ite ?_ ?_
   | refine LeO.bind ?_ (fun _ => ?_)
theorem counterpaneref07_Find.mono : ∀ a0 a1 k,LeO (counterpaneref07_Find.f k a0 a1) (counterpaneref07_Find.f (k + 1) a0 a1):=by
 intro a0 a1 k
 have ih0:=counterpaneref07_Find.mono_l k
 unfold counterpaneref07_Find.f
 repeat' first
   | (with_reducible exact ih0 _ _ _)
   | (with_reducible exact LeO.refl _)
   | (with_reducible exact LeO.none _)
   | (with_reducible refine LeO.ite ?_ ?_)
   | (with_reducible refine LeO.bind ?_ (fun _ => ?_))
   | exact ih0 _ _ _
   | exact LeO.none _
   | refine LeO.ite ?_ ?_
   | refine LeO.bind ?_ (fun _ => ?_)
set_option maxHeartbeats 8000000 in
set_option maxRecDepth 100000 in
theorem counterpaneref07_Find.calls (k : Nat) (P0_ : Nat → Prop) (A0 : Option Addr) (c0 : Nat) (l0 : List (S41)) (a1 : ByteArray) (r1 : ByteArray) (r2 : Int) (r3 : List ByteArray) (r4 : ByteArray) (r5 : Bool) (w : World) (hs0 : Kd.V k41 41 w w.heap.size (fun k_ => P0_ k_) (.slice A0 l0.length c0) l0) (h : counterpaneref07_Find.f k l0 a1 = some (r1,r2,r3,r4,r5)) :
  Calls Tryz.prog 33 #[.slice A0 l0.length c0,.string a1] w fun e w' => ∃ v2_ : Value,e = .returned (.tuple #[.agg #[.string r1,.int .i64 r2,v2_,.string r4],.bool r5]) ∧ Kd.V Kd.string 9 w' w.heap.size (fun k_ => (P0_ k_ ∨ w.heap.size ≤ k_)) v2_ r3 ∧ Below w.heap.size w w':=by
 have hu41:=Tryz.underlying41
 have HO0:=Aside0.mk (show Kd.V k41 41 w w.heap.size (fun k_ => (P0_ k_ ∨ w.heap.size ≤ k_)) (.slice A0 l0.length c0) l0 from Kd.V_mono hs0 (fun k_ hk => .inl hk))
 have HB:=Aside0.mk (Below.refl w.heap.size w)
 have H : (counterpaneref07_Find.l0 k l0 a1 0) = some (r1,r2,r3,r4,r5):=h
 clear h
 have H':=Aside0.mk H
 clear H
 go_enter Tryz.func33,Tryz.ntmps33
 go_wp2_with (first | ((with_reducible refine gate_dst (N:=4) rfl ?_); refine box_event ?hg (N:=4) ?hd (cs:=#[.string (⟨#[]⟩ : ByteArray),.int .i64 0,.slice none 0 0,.string (⟨#[]⟩ : ByteArray)]) (t:=41) ?hr ?_; (case hd => rfl); (case hg => rfl); (case hr => first | (go_simp; done) | (go_simp; rfl)); intro gb205 hg w3 hbox hb; have n0_:=Aside0.mk (Kd.V_below (Kd.V_elderB (by (with_reducible repeat (first | apply Kd.V_alloc | apply Kd.V_drewN | apply Kd.V_drew)); exact HO0.out) gb205 (Nat.le_of_eq hg.symm)) hb); have n1_:=Aside0.mk (below_step (by repeat (first | (with_reducible first | exact HB.out | apply below_alloc | apply pw_below_drewN | apply below_drew1) | exact HB.out)) hb); have n2_:=Aside0.mk (hbox); have n3_:=Aside0.mk ((by rw [hg]; exact (below_size (by repeat (first | (with_reducible first | exact HB.out | apply below_alloc | apply pw_below_drewN | apply below_drew1) | exact HB.out))) : w.heap.size ≤ gb205)); have n4_:=Aside0.mk ((by rw [hg]; exact (below_size (by repeat (first | (with_reducible first | exact HB.out | apply below_alloc | apply pw_below_drewN | apply below_drew1) | exact HB.out))) : w.heap.size ≤ gb205)); clear HO0; clear HB; have HO0:=n0_; have HB:=n1_; have BK205:=n2_; have GW205:=n3_; have GE205:=n4_; clear n0_ n1_ n2_ n3_ n4_; clear hb hbox hg))
 go_loopg [6] k (fun kq v6 w' => ∃ (x6_1 : Int) (x206000_1 : ByteArray) (x206001_1 : Int) (x206003_1 : ByteArray),v6 = .int .i64 x6_1 ∧ Aside0 (counterpaneref07_Find.l0 kq l0 a1 x6_1 = some (r1,r2,r3,r4,r5)) ∧ Aside0 (kq ≤ k) ∧ Aside0 (Kd.V k41 41 w' w.heap.size (fun k_ => (P0_ k_ ∨ w.heap.size ≤ k_) ∧ k_ ≠ gb205) (.slice A0 l0.length c0) l0) ∧ Aside0 (w'.heap[gb205]? = some (.cells #[.string x206000_1,.int .i64 x206001_1,(.slice none 0 0),.string x206003_1] 41 (0,0))) ∧ Aside0 (Below w.heap.size w w'))
 case atStart => exact ⟨(0),((⟨#[]⟩ : ByteArray)),(0),((⟨#[]⟩ : ByteArray)),(by first | rfl | (simp; done) | (simp [*]; done)),H',⟨Nat.le_refl _⟩,⟨by (with_reducible repeat (first | apply Kd.V_alloc | apply Kd.V_drewN | apply Kd.V_drew)); exact HO0.out⟩,⟨by (with_reducible repeat (first | refine blk_drewN ?_ _ | refine blk_drew ?_ | refine blk_alloc ?_ _)); exact BK205.out⟩,⟨by repeat (first | (with_reducible first | exact HB.out | apply below_alloc | apply pw_below_drewN | apply below_drew1 | refine below_set ?_ GE205.out) | exact HB.out)⟩⟩
 case round =>
  clear H'
  try clear p2
  try clear c3
  obtain ⟨x6_1,x206000_1,x206001_1,x206003_1,rfl,HA,HK1,HO_0,BK205,HB⟩:=hrel
  cases gk with
  | zero => exact absurd HA.out (by simp [counterpaneref07_Find.l0])
  | succ k1 =>
   have H:=HA.out
   clear HA
   simp only [counterpaneref07_Find.l0] at H
   by_cases c4 : x6_1 < (l0.length : Int)
   ·rw [if_pos c4] at H
    have c4b0 : decide (x6_1 < (l0.length : Int)) = true:=decide_eq_true c4
    clear c4
    by_cases c5 : 0 ≤ x6_1
    ·rw [if_pos c5] at H
     have c5b0 : decide (0 ≤ x6_1) = true:=decide_eq_true c5
     clear c5
     by_cases c6 : ((rd_T41 l0 x6_1).f0).toList = a1.toList
     ·rw [if_pos c6] at H
      have c6b0 : (((rd_T41 l0 x6_1).f0).toList == a1.toList) = true:=beq_iff_eq.mpr c6
      have c6b1 : (((rd_T41 l0 x6_1).f0).toList != a1.toList) = false:=bne_eq_false_iff_eq.mpr c6
      clear c6
      simp only [Option.some.injEq,Prod.mk.injEq] at H
      obtain ⟨rfl,rfl,rfl,rfl,rfl⟩:=H
      have p206 : 0 ≤ (x6_1 : Int):=of_decide_eq_true (by first | (with_reducible assumption) | assumption)
      have q206 : x6_1 < (l0.length : Int):=of_decide_eq_true (by first | (with_reducible assumption) | assumption)
      obtain ⟨ad206,A206_2,c206_2,e206,hx206_0,hx206_1,hx206_2,hx206_3,hl206_2,hi206_2⟩:=at_T41 (Kd.V_reads' HO_0.out).2.2 x6_1 p206 q206
      cases e206
      obtain ⟨ce206,hce206,hMe206,hcc206⟩:=Kd.V_get HO_0.out z41 x6_1 p206 (by first | exact q206 | exact of_decide_eq_true (by first | (with_reducible assumption) | assumption) | (have e_:=(Kd.V_reads' HO_0.out).1; omega))
      obtain ⟨ua206_2,uc206_2,rfl,ul206_2,ge206_2⟩:=k41_openF hMe206
      have hv206_2:=hcc206 2 _ rfl
      rw [add_field _ _ 2 (by omega)] at hv206_2
      replace hv206_2:=Option.some.inj (hv206_2.symm.trans hx206_2)
      injection hv206_2 with hva_ hvn_ hvc_
      rw [hva_] at ge206_2
      rw [hvc_] at ul206_2
      have HL206_2:=Aside0.mk (show Kd.V Kd.string 9 _ w.heap.size _ _ ((rd_T41 l0 x6_1).f2) from Kd.V_mk ul206_2 ge206_2)
      clear hva_ hvn_ hvc_ ge206_2 ul206_2
      clear hcc206 hce206
      have HR206_2:=Aside0.mk hi206_2
      have HC206_2:=Aside0.mk hl206_2
      clear hi206_2 hl206_2
      replace p206:=eq_true p206
      replace q206:=eq_true q206
      have p207 : 0 ≤ (x6_1 : Int):=of_decide_eq_true (by first | (with_reducible assumption) | assumption)
      have q207 : x6_1 < (l0.length : Int):=of_decide_eq_true (by first | (with_reducible assumption) | assumption)
      obtain ⟨ad207,A207_2,c207_2,e207,hx207_0,hx207_1,hx207_2,hx207_3,hl207_2,hi207_2⟩:=at_T41 (Kd.V_reads' HO_0.out).2.2 x6_1 p207 q207
      obtain rfl : ad206 = ad207:=(by injection e207)
      obtain ⟨ce207,hce207,hMe207,hcc207⟩:=Kd.V_get HO_0.out z41 x6_1 p207 (by first | exact q207 | exact of_decide_eq_true (by first | (with_reducible assumption) | assumption) | (have e_:=(Kd.V_reads' HO_0.out).1; omega))
      obtain ⟨ua207_2,uc207_2,rfl,ul207_2,ge207_2⟩:=k41_openF hMe207
      have hv207_2:=hcc207 2 _ rfl
      rw [add_field _ _ 2 (by omega)] at hv207_2
      replace hv207_2:=Option.some.inj (hv207_2.symm.trans hx207_2)
      injection hv207_2 with hva_ hvn_ hvc_
      rw [hva_] at ge207_2
      rw [hvc_] at ul207_2
      have HL207_2:=Aside0.mk (show Kd.V Kd.string 9 _ w.heap.size _ _ ((rd_T41 l0 x6_1).f2) from Kd.V_mk ul207_2 ge207_2)
      clear hva_ hvn_ hvc_ ge207_2 ul207_2
      clear hcc207 hce207
      have HR207_2:=Aside0.mk hi207_2
      have HC207_2:=Aside0.mk hl207_2
      clear hi207_2 hl207_2
      replace p207:=eq_true p207
      replace q207:=eq_true q207
      have ea_:=Option.some.inj (hx206_2.symm.trans hx207_2)
      injection ea_ with ea_ en_ ec_
      subst ea_
      subst ec_
      clear en_
      have hcz7_0 : wr.cell? ⟨gb205,0,none⟩ = some (.string x206000_1):=(blk_cell BK205.out 0).trans rfl
      have hcz7_1 : wr.cell? ⟨gb205,1,none⟩ = some (.int .i64 x206001_1):=(blk_cell BK205.out 1).trans rfl
      have hcz7_2 : wr.cell? ⟨gb205,2,none⟩ = some (.slice none 0 0):=(blk_cell BK205.out 2).trans rfl
      have hcz7_3 : wr.cell? ⟨gb205,3,none⟩ = some (.string x206003_1):=(blk_cell BK205.out 3).trans rfl
      have hfz7_0:=blk_frozen BK205.out 0
      have hfz7_1:=blk_frozen BK205.out 1
      have hfz7_2:=blk_frozen BK205.out 2
      have hfz7_3:=blk_frozen BK205.out 3
      go_wp2
      refine bodyPost_ret (results_ct rfl _ _ gb205 41 #[.string ((rd_T41 l0 x6_1).f0),.int .i64 ((rd_T41 l0 x6_1).f1),.slice A206_2 ((rd_T41 l0 x6_1).f2).length c206_2,.string ((rd_T41 l0 x6_1).f3)] (0,0) _ rfl (by (with_reducible repeat (first | refine blk_drewN ?_ _ | refine blk_drew ?_ | refine blk_alloc ?_ _)); refine blk_put (cs:=#[.string ((rd_T41 l0 x6_1).f0),.int .i64 ((rd_T41 l0 x6_1).f1),.slice A206_2 ((rd_T41 l0 x6_1).f2).length c206_2,.string x206003_1]) ?_ 3 _ rfl; (with_reducible repeat (first | refine blk_drewN ?_ _ | refine blk_drew ?_ | refine blk_alloc ?_ _)); refine blk_put (cs:=#[.string ((rd_T41 l0 x6_1).f0),.int .i64 ((rd_T41 l0 x6_1).f1),.slice none 0 0,.string x206003_1]) ?_ 2 _ rfl; (with_reducible repeat (first | refine blk_drewN ?_ _ | refine blk_drew ?_ | refine blk_alloc ?_ _)); refine blk_put (cs:=#[.string ((rd_T41 l0 x6_1).f0),.int .i64 x206001_1,.slice none 0 0,.string x206003_1]) ?_ 1 _ rfl; (with_reducible repeat (first | refine blk_drewN ?_ _ | refine blk_drew ?_ | refine blk_alloc ?_ _)); refine blk_put (cs:=#[.string x206000_1,.int .i64 x206001_1,.slice none 0 0,.string x206003_1]) ?_ 0 _ rfl; (with_reducible repeat (first | refine blk_drewN ?_ _ | refine blk_drew ?_ | refine blk_alloc ?_ _)); exact BK205.out) Tryz.underlying41 rfl (by kernel_rfl)) rfl ?_
      exact ⟨_,by first | rfl | (simp [errW_none,errW_some] <;> rfl) | (simp [*,errW_none,errW_some] <;> rfl),by (with_reducible repeat (first | apply Kd.V_alloc | apply Kd.V_drewN | apply Kd.V_drew)); exact Kd.V_mono (Kd.V_far (p:=⟨gb205,3,none⟩) (Kd.V_far (p:=⟨gb205,2,none⟩) (Kd.V_far (p:=⟨gb205,1,none⟩) (Kd.V_far (p:=⟨gb205,0,none⟩) (Kd.V_mono HL207_2.out (fun k_ hk => (⟨hk,hk.2⟩ : _ ∧ k_ ≠ gb205))) (fun _ hk => hk.2) (.string ((rd_T41 l0 x6_1).f0))) (fun _ hk => hk.2) (.int .i64 ((rd_T41 l0 x6_1).f1))) (fun _ hk => hk.2) (.slice A206_2 ((rd_T41 l0 x6_1).f2).length c206_2)) (fun _ hk => hk.2) (.string ((rd_T41 l0 x6_1).f3))) (fun _ hk => hk.1.1),by repeat (first | (with_reducible first | exact HB.out | apply below_alloc | apply pw_below_drewN | apply below_drew1 | refine below_set ?_ GE205.out) | exact HB.out)⟩
     ·rw [if_neg c6] at H
      have c6b0 : (((rd_T41 l0 x6_1).f0).toList == a1.toList) = false:=beq_eq_false_iff_ne.mpr c6
      have c6b1 : (((rd_T41 l0 x6_1).f0).toList != a1.toList) = true:=bne_iff_ne.mpr c6
      have H':=Aside0.mk H
      clear H
      have p206 : 0 ≤ (x6_1 : Int):=of_decide_eq_true (by first | (with_reducible assumption) | assumption)
      have q206 : x6_1 < (l0.length : Int):=of_decide_eq_true (by first | (with_reducible assumption) | assumption)
      obtain ⟨ad206,A206_2,c206_2,e206,hx206_0,hx206_1,hx206_2,hx206_3,hl206_2,hi206_2⟩:=at_T41 (Kd.V_reads' HO_0.out).2.2 x6_1 p206 q206
      cases e206
      obtain ⟨ce206,hce206,hMe206,hcc206⟩:=Kd.V_get HO_0.out z41 x6_1 p206 (by first | exact q206 | exact of_decide_eq_true (by first | (with_reducible assumption) | assumption) | (have e_:=(Kd.V_reads' HO_0.out).1; omega))
      obtain ⟨ua206_2,uc206_2,rfl,ul206_2,ge206_2⟩:=k41_openF hMe206
      have hv206_2:=hcc206 2 _ rfl
      rw [add_field _ _ 2 (by omega)] at hv206_2
      replace hv206_2:=Option.some.inj (hv206_2.symm.trans hx206_2)
      injection hv206_2 with hva_ hvn_ hvc_
      rw [hva_] at ge206_2
      rw [hvc_] at ul206_2
      have HL206_2:=Aside0.mk (show Kd.V Kd.string 9 _ w.heap.size _ _ ((rd_T41 l0 x6_1).f2) from Kd.V_mk ul206_2 ge206_2)
      clear hva_ hvn_ hvc_ ge206_2 ul206_2
      clear hcc206 hce206
      have HR206_2:=Aside0.mk hi206_2
      have HC206_2:=Aside0.mk hl206_2
      clear hi206_2 hl206_2
      replace p206:=eq_true p206
      replace q206:=eq_true q206
      go_wp2
      go_roundg k1
      case measure => have:=HK1.out; omega
      case rel => exact ⟨(wrap64 (x6_1 + 1)),(x206000_1),(x206001_1),(x206003_1),(by first | rfl | (simp; done) | (simp [*]; done)),H',⟨by have:=HK1.out; omega⟩,⟨by (with_reducible repeat (first | apply Kd.V_alloc | apply Kd.V_drewN | apply Kd.V_drew)); exact HO_0.out⟩,⟨by (with_reducible repeat (first | refine blk_drewN ?_ _ | refine blk_drew ?_ | refine blk_alloc ?_ _)); exact BK205.out⟩,⟨by repeat (first | (with_reducible first | exact HB.out | apply below_alloc | apply pw_below_drewN | apply below_drew1 | refine below_set ?_ GE205.out) | exact HB.out)⟩⟩
    ·rw [if_neg c5] at H
     exact absurd H (by simp)
   ·rw [if_neg c4] at H
    have c4b0 : decide (x6_1 < (l0.length : Int)) = false:=decide_eq_false c4
    clear c4
    simp only [Option.some.injEq,Prod.mk.injEq] at H
    obtain ⟨rfl,rfl,rfl,rfl,rfl⟩:=H
    have hcz8_0 : wr.cell? ⟨gb205,0,none⟩ = some (.string x206000_1):=(blk_cell BK205.out 0).trans rfl
    have hcz8_1 : wr.cell? ⟨gb205,1,none⟩ = some (.int .i64 x206001_1):=(blk_cell BK205.out 1).trans rfl
    have hcz8_2 : wr.cell? ⟨gb205,2,none⟩ = some (.slice none 0 0):=(blk_cell BK205.out 2).trans rfl
    have hcz8_3 : wr.cell? ⟨gb205,3,none⟩ = some (.string x206003_1):=(blk_cell BK205.out 3).trans rfl
    have hfz8_0:=blk_frozen BK205.out 0
    have hfz8_1:=blk_frozen BK205.out 1
    have hfz8_2:=blk_frozen BK205.out 2
    have hfz8_3:=blk_frozen BK205.out 3
    go_wp2
    refine bodyPost_ret (results_ct rfl _ _ gb205 41 #[.string (⟨#[]⟩ : ByteArray),.int .i64 0,.slice none 0 0,.string (⟨#[]⟩ : ByteArray)] (0,0) _ rfl (by (with_reducible repeat (first | refine blk_drewN ?_ _ | refine blk_drew ?_ | refine blk_alloc ?_ _)); refine blk_put (cs:=#[.string (⟨#[]⟩ : ByteArray),.int .i64 0,.slice none 0 0,.string x206003_1]) ?_ 3 _ rfl; (with_reducible repeat (first | refine blk_drewN ?_ _ | refine blk_drew ?_ | refine blk_alloc ?_ _)); refine blk_put (cs:=#[.string (⟨#[]⟩ : ByteArray),.int .i64 0,.slice none 0 0,.string x206003_1]) ?_ 2 _ rfl; (with_reducible repeat (first | refine blk_drewN ?_ _ | refine blk_drew ?_ | refine blk_alloc ?_ _)); refine blk_put (cs:=#[.string (⟨#[]⟩ : ByteArray),.int .i64 x206001_1,.slice none 0 0,.string x206003_1]) ?_ 1 _ rfl; (with_reducible repeat (first | refine blk_drewN ?_ _ | refine blk_drew ?_ | refine blk_alloc ?_ _)); refine blk_put (cs:=#[.string x206000_1,.int .i64 x206001_1,.slice none 0 0,.string x206003_1]) ?_ 0 _ rfl; (with_reducible repeat (first | refine blk_drewN ?_ _ | refine blk_drew ?_ | refine blk_alloc ?_ _)); exact BK205.out) Tryz.underlying41 rfl (by kernel_rfl)) rfl ?_
    exact ⟨_,by first | rfl | (simp [errW_none,errW_some] <;> rfl) | (simp [*,errW_none,errW_some] <;> rfl),Kd.V_nil _ _ _ _ _,by repeat (first | (with_reducible first | exact HB.out | apply below_alloc | apply pw_below_drewN | apply below_drew1 | refine below_set ?_ GE205.out) | exact HB.out)⟩

def counterpaneref04_Parent.l0 : Nat → ByteArray → Int → Option (ByteArray × Bool)
 | 0,_,_ => none
 | k + 1,x0,x4 => if x4 ≥ 0 then (if 0 ≤ x4 then (if x4 < (x0.size : Int) then (if (bt x0 x4) = 47 then (if x4 ≤ (x0.size : Int) then (some (x0.extract 0 (x4 : Int).toNat,true)) else (none)) else (counterpaneref04_Parent.l0 k x0 (wrap64 (x4 - 1)))) else (none)) else (none)) else (some ((⟨#[]⟩ : ByteArray),false))
def counterpaneref04_Parent.f (k : Nat) (a0 : ByteArray) : Option (ByteArray × Bool):=counterpaneref04_Parent.l0 k a0 (wrap64 ((a0.size : Int) - 1))
theorem counterpaneref04_Parent.mono_l : ∀ k,(∀ y0 y1,LeO (counterpaneref04_Parent.l0 k y0 y1) (counterpaneref04_Parent.l0 (k + 1) y0 y1))
 | 0 => fun _ _ r h => by simp [counterpaneref04_Parent.l0] at h
 | k + 1 => by
  have ih0:=counterpaneref04_Parent.mono_l k
  ·intro y0 y1
   unfold counterpaneref04_Parent.l0
   repeat' first
   | (with_reducible exact ih0 _ _)
   | (with_reducible exact LeO.refl _)
   | (with_reducible exact LeO.none _)
   | (with_reducible refine LeO.ite ?_ ?_)
   | (with_reducible refine LeO.bind ?_ (fun _ => ?_))
   | exact ih0 _ _
   | exact LeO.none _
   | refine LeO.ite ?_ ?_
   | refine LeO.bind ?_ (fun _ => ?_)
theorem counterpaneref04_Parent.mono : ∀ a0 k,LeO (counterpaneref04_Parent.f k a0) (counterpaneref04_Parent.f (k + 1) a0):=by
 intro a0 k
 have ih0:=counterpaneref04_Parent.mono_l k
 unfold counterpaneref04_Parent.f
 repeat' first
   | (with_reducible exact ih0 _ _)
   | (with_reducible exact LeO.refl _)
   | (with_reducible exact LeO.none _)
   | (with_reducible refine LeO.ite ?_ ?_)
   | (with_reducible refine LeO.bind ?_ (fun _ => ?_))
   | exact ih0 _ _
   | exact LeO.none _
   | refine LeO.ite ?_ ?_
   | refine LeO.bind ?_ (fun _ => ?_)
set_option maxHeartbeats 8000000 in
set_option maxRecDepth 100000 in
theorem counterpaneref04_Parent.calls (k : Nat) (a0 : ByteArray) (r1 : ByteArray) (r2 : Bool) (w : World) (h : counterpaneref04_Parent.f k a0 = some (r1,r2)) :
  Calls Tryz.prog 35 #[.string a0] w fun e w' => e = .returned (.tuple #[.string r1,.bool r2]) ∧ Drawn0 w w':=by
 have H : (counterpaneref04_Parent.l0 k a0 (wrap64 ((a0.size : Int) - 1))) = some (r1,r2):=h
 clear h
 have H':=Aside0.mk H
 clear H
 go_enter Tryz.func35,Tryz.ntmps35
 go_wp2
 go_loopg [4] k (fun kq v4 w' => ∃ (x4_1 : Int),v4 = .int .i64 x4_1 ∧ Aside0 (counterpaneref04_Parent.l0 kq a0 x4_1 = some (r1,r2)) ∧ Aside0 (kq ≤ k) ∧ Drawn0 w w')
 case atStart => exact ⟨(wrap64 ((a0.size : Int) - 1)),(by first | rfl | (simp; done) | (simp [*]; done)),H',⟨Nat.le_refl _⟩,by repeat (first | exact Drawn0.refl _ | apply Drawn0.step)⟩
 case round =>
  clear H'
  obtain ⟨x4_1,rfl,HA,HK1,⟨m1,rfl⟩⟩:=hrel
  cases gk with
  | zero => exact absurd HA.out (by simp [counterpaneref04_Parent.l0])
  | succ k1 =>
   have H:=HA.out
   clear HA
   simp only [counterpaneref04_Parent.l0] at H
   by_cases c2 : x4_1 ≥ 0
   ·rw [if_pos c2] at H
    have c2b0 : decide (0 ≤ x4_1) = true:=decide_eq_true c2
    clear c2
    by_cases c3 : 0 ≤ x4_1
    ·rw [if_pos c3] at H
     have c3b0 : decide (0 ≤ x4_1) = true:=decide_eq_true c3
     clear c3
     by_cases c4 : x4_1 < (a0.size : Int)
     ·rw [if_pos c4] at H
      have c4b0 : decide (x4_1 < (a0.size : Int)) = true:=decide_eq_true c4
      clear c4
      by_cases c6 : (bt a0 x4_1) = 47
      ·rw [if_pos c6] at H
       have c6b0 : ((bt a0 x4_1) == 47) = true:=beq_iff_eq.mpr c6
       have c6b1 : ((bt a0 x4_1) != 47) = false:=bne_eq_false_iff_eq.mpr c6
       clear c6
       have c7b0:=eq_true (of_decide_eq_true (by first | (with_reducible assumption) | assumption) : 0 ≤ x4_1)
       by_cases c8 : x4_1 ≤ (a0.size : Int)
       ·rw [if_pos c8] at H
        have c8b0:=eq_true c8
        have c8b1 : decide (x4_1 ≤ (a0.size : Int)) = true:=decide_eq_true c8
        clear c8
        simp only [Option.some.injEq,Prod.mk.injEq] at H
        obtain ⟨rfl,rfl⟩:=H
        have p5 : 0 ≤ (x4_1 : Int):=of_decide_eq_true (by first | (with_reducible assumption) | assumption)
        have q5 : x4_1 < (a0.size : Int):=of_decide_eq_true (by first | (with_reducible assumption) | assumption)
        have hx5:=bt_at a0 x4_1
        replace p5:=eq_true p5
        replace q5:=eq_true q5
        go_wp2
        go_ret2
        exact ⟨by first | rfl | (simp; done) | (simp [*]; done) | (simp [show ∀ l : List UInt8,(l != []) = !l.isEmpty from fun l => by cases l <;> rfl]; done),by repeat (first | exact Drawn0.refl _ | apply Drawn0.step)⟩
       ·rw [if_neg c8] at H
        exact absurd H (by simp)
      ·rw [if_neg c6] at H
       have c6b0 : ((bt a0 x4_1) == 47) = false:=beq_eq_false_iff_ne.mpr c6
       have c6b1 : ((bt a0 x4_1) != 47) = true:=bne_iff_ne.mpr c6
       have H':=Aside0.mk H
       clear H
       have p5 : 0 ≤ (x4_1 : Int):=of_decide_eq_true (by first | (with_reducible assumption) | assumption)
       have q5 : x4_1 < (a0.size : Int):=of_decide_eq_true (by first | (with_reducible assumption) | assumption)
       have hx5:=bt_at a0 x4_1
       replace p5:=eq_true p5
       replace q5:=eq_true q5
       go_wp2
       go_roundg k1
       case measure => have:=HK1.out; omega
       case rel => exact ⟨(wrap64 (x4_1 - 1)),(by first | rfl | (simp; done) | (simp [*]; done)),H',⟨by have:=HK1.out; omega⟩,by repeat (first | exact Drawn0.refl _ | apply Drawn0.step)⟩
     ·rw [if_neg c4] at H
      exact absurd H (by simp)
    ·rw [if_neg c3] at H
     exact absurd H (by simp)
   ·rw [if_neg c2] at H
    have c2b0 : decide (0 ≤ x4_1) = false:=decide_eq_false c2
    clear c2
    simp only [Option.some.injEq,Prod.mk.injEq] at H
    obtain ⟨rfl,rfl⟩:=H
    go_wp2
    go_ret2
    exact ⟨by first | rfl | (simp; done) | (simp [*]; done) | (simp [show ∀ l : List UInt8,(l != []) = !l.isEmpty from fun l => by cases l <;> rfl]; done),by repeat (first | exact Drawn0.refl _ | apply Drawn0.step)⟩

end Go.Proofs.YthhohbidjhcjeaaGreatDoor.Q
namespace Go.Proofs.YthhohbidjhcjeaaGreatDoor.H
open Go.RowKit Go.Shelf Go.Proofs.YthhohbidjhcjeaaGreatDoorW.PrintWords Go.Proofs.YthhohbidjhcjeaaGreatDoorW.PrintLast Go.Proofs.YthhohbidjhcjeaaGreatDoorW.PrintMore
open Go.Proofs.YthhohbidjhcjeaaGreatDoor.Q Go.Proofs.YthhohbidjhcjeaaGreatDoor.Pl
set_option linter.unusedVariables false
set_option linter.unusedSimpArgs false
theorem find07_l (l : List S41) (s : ByteArray) (hn : l.length ≤ 140737488355328) : ∀ (d i : Nat),i + d = l.length →
  Ev (fun k => counterpaneref07_Find.l0 k l s (i : Int)) ((thingAt (l.drop i) s).f0,(thingAt (l.drop i) s).f1,(thingAt (l.drop i) s).f2,(thingAt (l.drop i) s).f3,(findV (l.drop i) s).isSome):=by
 intro d
 induction d with
 | zero =>
  intro i hi
  rw [List.drop_of_length_le (by omega)]
  refine Ev.step (f:=fun _ => some ((⟨#[]⟩ : ByteArray),0,([] : List ByteArray),(⟨#[]⟩ : ByteArray),false)) (fun k => ?_) (Ev.now _)
  simp only [counterpaneref07_Find.l0]
  rw [if_neg (by omega)]
 | succ d ih =>
  intro i hi
  have h1 : i < l.length:=by omega
  rw [List.drop_eq_getElem_cons h1]
  by_cases hc : l[i].f0 = s
  ·have hf : findV (l[i] :: l.drop (i + 1)) s = some l[i]:=by rw [find_cons,if_pos hc]
   have ht : thingAt (l[i] :: l.drop (i + 1)) s = l[i]:=by unfold thingAt; rw [hf]; rfl
   rw [ht,hf]
   refine Ev.step (f:=fun _ => some (l[i].f0,l[i].f1,l[i].f2,l[i].f3,true)) (fun k => ?_) (Ev.now _)
   simp only [counterpaneref07_Find.l0]
   rw [if_pos (by omega),if_pos (by omega),rd_T41_get _ h1,if_pos (by rw [hc])]
  ·have hf : findV (l[i] :: l.drop (i + 1)) s = findV (l.drop (i + 1)) s:=by rw [find_cons,if_neg hc]
   have ht : thingAt (l[i] :: l.drop (i + 1)) s = thingAt (l.drop (i + 1)) s:=by unfold thingAt; rw [hf]
   rw [ht,hf]
   refine Ev.step (f:=fun k => counterpaneref07_Find.l0 k l s ((i + 1 : Nat) : Int)) (fun k => ?_) (ih (i + 1) (by omega))
   simp only [counterpaneref07_Find.l0]
   rw [if_pos (by omega),if_pos (by omega),rd_T41_get _ h1,if_neg (fun h => hc (toList_inj h)),wrap_1 h1 hn]
theorem find_at (l : List S41) (A : Option Addr) (c : Nat) (s : ByteArray) (w : World) (hr : Kd.C k41 w A l.length l) (hc : l.length ≤ c) (hn : l.length ≤ 140737488355328) :
  ∀ U,Below w.heap.size w U → Calls Tryz.prog 33 #[.slice A l.length c,.string s] U fun e w' => ∃ X d,e = .returned (.tuple #[.agg #[.string (thingAt l s).f0,.int .i64 (thingAt l s).f1,.slice X (thingAt l s).f2.length d,.string (thingAt l s).f3],.bool (findV l s).isSome]) ∧
   (thingAt l s).f2.length ≤ d ∧ Kd.string.C w' X (thingAt l s).f2.length (thingAt l s).f2 ∧ Below U.heap.size U w':=by
 intro U hU
 obtain ⟨k,hk⟩:=(find07_l l s hn l.length 0 (by omega)).rounds
 rw [List.drop_zero] at hk
 refine (counterpaneref07_Find.calls k (fun k => k < U.heap.size) A c l s _ _ _ _ _ U (Kd.V_mk hc (Kd.C_F k41_heap (Kd.C_below hr hU))) hk).mono ?_
 rintro e w' ⟨v,rfl,hV,hb⟩
 obtain ⟨X,d,rfl,hd,hF⟩:=hV
 exact ⟨X,d,rfl,hd,Kd.F_now hF,hb⟩
theorem parent04_l (p : ByteArray) (hn : p.size ≤ 140737488355328) : ∀ (i : Nat),i ≤ p.size → (∀ j,i ≤ j → p.data.toList[j]? ≠ some 47) →
  Ev (fun k => counterpaneref04_Parent.l0 k p ((i : Int) - 1)) ((parentV p).getD ⟨#[]⟩,(parentV p).isSome):=by
 intro i
 induction i with
 | zero =>
  intro _ hno
  have hp : parentV p = none:=by
   rcases parent_cases p with ⟨h,_⟩ | ⟨q,t,h,hd,_⟩
   ·exact h
   ·have:=hno q.data.toList.length (by omega)
    rw [hd,List.getElem?_append_right (by omega),Nat.sub_self] at this
    exact absurd rfl this
  rw [hp]
  refine Ev.step (f:=fun _ => some ((⟨#[]⟩ : ByteArray),false)) (fun k => ?_) (Ev.now _)
  simp only [counterpaneref04_Parent.l0]
  rw [if_neg (by omega)]
 | succ i ih =>
  intro hi hno
  have h1 : i < p.size:=by omega
  have hl : i < p.data.toList.length:=by rw [dlen]; exact h1
  have e1 : (((i + 1 : Nat) : Int) - 1) = (i : Int):=by omega
  rw [e1]
  by_cases hc : p.data.toList[i] = 47
  ·have hp : parentV p = some (p.extract 0 i):=by
    refine parent_eq (t:=p.data.toList.drop (i + 1)) ?_ ?_
    ·rw [extract_data,List.drop_zero]
     have h2:=List.drop_eq_getElem_cons hl
     rw [hc] at h2
     rw [← h2,List.take_append_drop]
    ·intro hm
     obtain ⟨j,hj,e⟩:=List.getElem_of_mem hm
     rw [List.length_drop] at hj
     rw [List.getElem_drop] at e
     exact hno (i + 1 + j) (by omega) (by rw [List.getElem?_eq_getElem (by omega),e])
   rw [hp]
   refine Ev.step (f:=fun _ => some (p.extract 0 i,true)) (fun k => ?_) (Ev.now _)
   simp only [counterpaneref04_Parent.l0]
   rw [if_pos (by omega),if_pos (by omega),if_pos (by omega),bt_get p i h1,hc,if_pos (by rfl),if_pos (by omega),Int.toNat_natCast]
  ·refine Ev.step (f:=fun k => counterpaneref04_Parent.l0 k p ((i : Int) - 1)) (fun k => ?_) (ih (by omega) (fun j hj e => ?_))
   ·simp only [counterpaneref04_Parent.l0]
    rw [if_pos (by omega),if_pos (by omega),if_pos (by omega),bt_get p i h1,if_neg (fun h => hc (u8_47 h)),wrap_id (by omega) (by omega)]
   ·rcases Nat.lt_or_ge i j with h | h
    ·exact hno j (by omega) e
    ·have : j = i:=by omega
     subst this
     rw [List.getElem?_eq_getElem hl] at e
     exact hc (Option.some.inj e)
theorem parentR_at (p : ByteArray) (hn : p.size ≤ 140737488355328) (U : World) : Calls Tryz.prog 35 #[.string p] U fun e w' => e = .returned (.tuple #[.string ((parentV p).getD ⟨#[]⟩),.bool (parentV p).isSome]) ∧ Below U.heap.size U w':=by
 obtain ⟨k,hk⟩:=(parent04_l p hn p.size (Nat.le_refl _) (fun j hj e => by
  have:=(List.getElem?_eq_some_iff.1 e).1
  rw [dlen] at this
  omega)).rounds
 refine (counterpaneref04_Parent.calls k p _ _ U ?_).mono fun e w' h => ⟨h.1,h.2.below⟩
 unfold counterpaneref04_Parent.f
 rw [wrap_id (by omega) (by omega)]
 exact hk
theorem rightR_at (p : ByteArray) (hn : p.size ≤ 140737488355328) (U : World) : Calls Tryz.prog 36 #[.string p] U fun e w' => e = .returned (.bool (rightB p)) ∧ Below U.heap.size U w':=by
 obtain ⟨k,hk⟩:=(refRight p hn).rounds
 exact (counterpaneref04_Right.calls k p _ U hk).mono fun e w' h => ⟨h.1,h.2.below⟩
theorem linesR_at (l : List ByteArray) (A : Option Addr) (c : Nat) (U : World) (hn : l.length ≤ 140737488355328) (hs : ∀ x ∈ l,x.size ≤ 140737488355328) (hr : Kd.string.C U A l.length l) (hc : l.length ≤ c) :
  Calls Tryz.prog 70 #[.slice A l.length c] U fun e w' => e = .returned (.bool (linesB l)) ∧ Below U.heap.size U w':=by
 obtain ⟨k,hk⟩:=(refLinesRight l hn hs).rounds
 exact (counterpaneref05_Right.calls k A c l _ U hr hc hk).mono fun e w' h => ⟨h.1,h.2.below⟩
def parR (l : List S41) (x : S41) : Bool:=match parentV x.f0 with | none => true | some q => (findV l q).isSome && (thingAt l q).f1 == 1
def stepR (l : List S41) (i : Nat) (x : S41) : Bool:=thingB x && (decide (i = 0) || ltP (l.getD (i - 1) z41).f0 x.f0) && parR l x
theorem srt_steps : ∀ (l : List S41),(∀ i,i + 1 < l.length → ltP (l.getD i z41).f0 (l.getD (i + 1) z41).f0 = true) → Srt l
 | [],_ => List.Pairwise.nil
 | x :: l,h => by
  have ih:=srt_steps l (fun i hi => by have:=h (i + 1) (by rw [List.length_cons]; omega); simpa using this)
  refine srt_cons.2 ⟨?_,ih⟩
  cases l with
  | nil => intro y hy; cases hy
  | cons z r =>
   have hxz : ltP x.f0 z.f0 = true:=by have:=h 0 (by rw [List.length_cons,List.length_cons]; omega); simpa using this
   intro y hy
   rcases List.mem_cons.1 hy with e | hy
   ·rw [e]; exact hxz
   ·exact ltP_trans hxz ((srt_cons.1 ih).1 y hy)
theorem tree_steps {l : List S41} (h : l.length ≤ 1024) : treeB l = true ↔ ∀ (i : Nat) (hi : i < l.length),stepR l i l[i] = true:=by
 rw [tree_iff]
 constructor
 ·intro ht i hi
  have hm : l[i] ∈ l:=List.getElem_mem hi
  unfold stepR parR
  rw [ht.t _ hm,Bool.true_and,Bool.and_eq_true]
  constructor
  ·rcases Nat.eq_zero_or_pos i with h0 | h0
   ·rw [decide_eq_true h0]; rfl
   ·rw [Bool.or_eq_true]
    right
    have:=srt_get ht.s (a:=i - 1) (b:=i) (by omega) hi
    rwa [getD_get hi] at this
  ·cases hp : parentV l[i].f0 with
   | none => rfl
   | some q =>
    obtain ⟨y,hy,e1,e2⟩:=ht.p _ hm q hp
    have hf : findV l q = some y:=by rw [← e1]; exact find_of_mem ht.s hy
    show ((findV l q).isSome && (thingAt l q).f1 == 1) = true
    unfold thingAt
    rw [hf]
    simp [e2]
 ·intro hs
  have hall : ∀ x ∈ l,thingB x = true ∧ parR l x = true:=by
   intro x hx
   obtain ⟨i,hi,rfl⟩:=List.getElem_of_mem hx
   have:=hs i hi
   unfold stepR at this
   simp only [Bool.and_eq_true] at this
   exact ⟨this.1.1,this.2⟩
  refine ⟨h,srt_steps l (fun i hi => ?_),fun x hx => (hall x hx).1,fun x hx q hq => ?_⟩
  ·have:=hs (i + 1) hi
   unfold stepR at this
   simp only [Bool.and_eq_true,Bool.or_eq_true,decide_eq_true_eq] at this
   have h2:=this.1.2
   rw [getD_get hi]
   rcases h2 with h2 | h2
   ·omega
   ·simpa using h2
  ·have:=(hall x hx).2
   unfold parR at this
   rw [hq] at this
   simp only [Bool.and_eq_true,beq_iff_eq] at this
   obtain ⟨h1,h2⟩:=this
   cases hf : findV l q with
   | none => rw [hf] at h1; cases h1
   | some y =>
    unfold thingAt at h2
    rw [hf] at h2
    exact ⟨y,(find_mem hf).1,(find_mem hf).2,h2⟩

set_option maxHeartbeats 32000000 in
set_option maxRecDepth 1000000 in
theorem treeR_at (l : List S41) (A : Option Addr) (c : Nat) (w : World) (hr : Kd.C k41 w A l.length l) (hc : l.length ≤ c) (hp : ∀ x ∈ l,x.f0.size ≤ 1000000000000) (hn2 : ∀ x ∈ l,x.f2.length ≤ 140737488355328) (ht2 : ∀ x ∈ l,∀ s ∈ x.f2,s.size ≤ 140737488355328) :
  Calls Tryz.prog 31 #[.slice A l.length c] w fun e w' => e = .returned (.bool (treeB l)) ∧ Below w.heap.size w w':=by
 have HR:=Aside0.mk hr
 have HP:=Aside0.mk hp
 have HN2:=Aside0.mk hn2
 have HT2:=Aside0.mk ht2
 have HC:=Aside0.mk hc
 have hn63 : l.length ≤ 9223372036854775807:=hr.2.1
 clear hr hp hn2 ht2 hc
 by_cases hbig : l.length ≤ 1024
 ·have hb1 : decide ((l.length : Int) > 1024) = false:=decide_eq_false (by omega)
  have hb2 : decide ((1024 : Int) < (l.length : Int)) = false:=decide_eq_false (by omega)
  obtain ⟨T,hT⟩ : ∃ T,treeB l = T:=⟨_,rfl⟩
  rw [hT]
  have HT:=Aside0.mk hT
  have HN : Aside0 (l.length ≤ 140737488355328):=⟨by omega⟩
  have B0 : Aside0 (Below w.heap.size w w):=⟨Below.refl _ _⟩
  have S0 : Aside0 (∀ (j : Nat) (hj : j < l.length),j < 0 → stepR l j l[j] = true):=⟨fun j _ h => absurd h (Nat.not_lt_zero _)⟩
  clear hT
  go_enter Tryz.func31,Tryz.ntmps31
  go_wp2
  go_loopg [3] l.length (fun kx s3 wr => ∃ i : Nat,s3 = .int .i64 i ∧ i + kx = l.length ∧ Aside0 (Below w.heap.size w wr) ∧ Aside0 (∀ (j : Nat) (hj : j < l.length),j < i → stepR l j l[j] = true))
  case atStart => exact ⟨0,rfl,by omega,B0,S0⟩
  case round =>
   clear B0 S0
   obtain ⟨i,rfl,hi,B1,S1⟩:=hrel
   by_cases hlt : i < l.length
   ·have hi0 : (0 : Int) ≤ (i : Int):=by omega
    have hi1 : (i : Int) < (l.length : Int):=by omega
    have hdb : decide ((i : Int) < (l.length : Int)) = true:=decide_eq_true hi1
    have hwi : IntKind.i64.wrap ((i : Int) + 1) = ((i + 1 : Nat) : Int):=by rw [wrap_small _ (by omega) (by omega)]; omega
    obtain ⟨ad,X,d,rfl,rx,q0,q1,q2,q3⟩:=ent_at (Kd.C_below HR.out B1.out) i hlt rfl
    obtain ⟨x,hx⟩ : ∃ x,l.getD i z41 = x:=⟨_,rfl⟩
    rw [hx] at rx q0 q1 q2 q3
    have hxi : l[i] = x:=by rw [← hx,getD_get hlt]
    have hxm : x ∈ l:=by rw [← hxi]; exact List.getElem_mem hlt
    have HSZ:=Aside0.mk (HP.out x hxm)
    have HSN:=Aside0.mk (HN2.out x hxm)
    have HST:=Aside0.mk (HT2.out x hxm)
    have HNO : Aside0 (stepR l i x = false → Aside0 (T = false)):=⟨fun h => ⟨by
     rw [← HT.out]
     cases ht : treeB l with
     | false => rfl
     | true =>
      have:=(tree_steps hbig).1 ht i hlt
      rw [hxi,h] at this
      cases this⟩⟩
    have HNX : Aside0 (stepR l i x = true → Aside0 (∀ (j : Nat) (hj : j < l.length),j < i + 1 → stepR l j l[j] = true)):=⟨fun h => ⟨fun j hj hji => by
     rcases Nat.lt_or_ge j i with k | k
     ·exact S1.out j hj k
     ·have : j = i:=by omega
      subst this
      rw [hxi]; exact h⟩⟩
    have HTH : Aside0 (thingB x = true → thingB x = true):=⟨id⟩
    have hPa:=fun W => parentR_at x.f0 (Nat.le_trans HSZ.out (by decide)) W
    have RX:=Aside0.mk rx
    have HB2 : Aside0 (Below w.heap.size w (wr.alloc (.cells #[.string x.f0,.int .i64 x.f1,.slice X x.f2.length d,.string x.f3] 41))):=⟨below_alloc B1.out _⟩
    have HXB : Aside0 ((wr.alloc (.cells #[.string x.f0,.int .i64 x.f1,.slice X x.f2.length d,.string x.f3] 41)).heap[wr.heap.size]? = some (.cells #[.string x.f0,.int .i64 x.f1,.slice X x.f2.length d,.string x.f3] 41 (0,0))):=⟨blk_new _ _⟩
    obtain ⟨k0,k1,k2,k3⟩:=cells4 HXB.out
    clear hx hxi hxm rx
    go_upto_region 7 with (fail)
    generalize hwr2 : wr.alloc (.cells #[.string x.f0,.int .i64 x.f1,.slice X x.f2.length d,.string x.f3] 41) = wr2 at HB2 HXB k0 k1 k2 k3 ⊢
    have hw2b : Below wr.heap.size wr wr2:=by rw [← hwr2]; exact below_alloc (Below.refl _ _) _
    have hRt:=fun W => rightR_at x.f0 (Nat.le_trans HSZ.out (by decide)) W
    have hLn : ∀ W,Below wr2.heap.size wr2 W → Calls Tryz.prog 70 #[.slice X x.f2.length d] W fun e w' => e = .returned (.bool (linesB x.f2)) ∧ Below W.heap.size W w':=fun W hb => linesR_at x.f2 X d W HSN.out HST.out (RX.out.later (hw2b.trans (hb.mono hw2b.size))).g RX.out.l
    have HW2B:=Aside0.mk hw2b
    obtain ⟨c1,hc1⟩ : ∃ c1,rightB x.f0 = c1:=⟨_,rfl⟩
    rw [hc1] at hRt
    have HC1:=Aside0.mk hc1
    clear hwr2 hw2b hc1 k0 k1 k2 k3 q0 q1 q2 q3
    cases c1 with
    | false =>
     have hno : Aside0 (T = false):=HNO.out (by unfold stepR thingB; rw [HC1.out]; rfl)
     refine wp_region_held_drew (S:=Below wr2.drew.heap.size wr2.drew) (by kernel_rfl) (Below.refl _ _) (fun hS => ?_)
     refine' tkE 0 22 hS ?_ ?_; rotate_left
     ·intro W' hSW; go_simp; (try with_reducible rfl)
     refine' tkE 1 23 hS ?_ ?_; rotate_left
     ·intro W' hSW; obtain ⟨k0,k1,k2,k3⟩:=cells4 (blk_below (blk_drew HXB.out) hSW); go_simp; (try with_reducible rfl)
     simp only [Act.put,List.setIfInBounds_toArray,List.set_cons_zero,List.set_cons_succ]
     refine wpAnyH_ready (rs:=[2]) (by kernel_rfl) (by simp) (AllReadyH.cons rfl (fun K hK => ?_) AllReadyH.nil)
     go_simp
     refine (hRt _).mono ?_
     rintro e W2 ⟨rfl,hb⟩
     have hS:=hS.trans (hb.mono hS.size)
     clear hb
     refine hK.out _ _ hS (fun _ => ?_)
     clear hK K
     refine' tkE 3 25 hS ?_ ?_; rotate_left
     ·intro W' hSW; go_simp; (try with_reducible rfl)
     refine' tkE 4 26 hS ?_ ?_; rotate_left
     ·intro W' hSW; go_simp; (try with_reducible rfl)
     simp only [Act.put,List.setIfInBounds_toArray,List.set_cons_zero,List.set_cons_succ]
     refine tkUs (fun _ _ _ _ h => h) hS [(5,27),(6,28),(7,29),(8,30),(9,31),(10,32),(11,33),(12,34),(13,35),(14,36),(15,37),(16,38),(17,39)] 11 rfl (by kernel_rfl) ?_
     simp only [skipL,skipP,Act.put,List.setIfInBounds_toArray,List.set_cons_zero,List.set_cons_succ]
     refine' tkE 18 40 hS ?_ ?_; rotate_left
     ·intro W' hSW; go_simp; (try with_reducible rfl)
     refine' tkE 19 41 hS ?_ ?_; rotate_left
     ·intro W' hSW; go_simp; (try with_reducible rfl)
     simp only [Act.put,List.setIfInBounds_toArray,List.set_cons_zero,List.set_cons_succ]
     refine tkUs (fun _ _ _ _ h => h) hS [(20,42),(21,43),(22,44)] 6 rfl (by kernel_rfl) ?_
     simp only [skipL,skipP,Act.put,List.setIfInBounds_toArray,List.set_cons_zero,List.set_cons_succ]
     refine' tkE 23 45 hS ?_ ?_; rotate_left
     ·intro W' hSW; go_simp; (try with_reducible rfl)
     refine' tkE 24 46 hS ?_ ?_; rotate_left
     ·intro W' hSW; go_simp; (try with_reducible rfl)
     simp only [Act.put,List.setIfInBounds_toArray,List.set_cons_zero,List.set_cons_succ]
     refine tkUs (fun _ _ _ _ h => h) hS [(25,47),(26,48),(27,49)] 1 rfl (by kernel_rfl) ?_
     simp only [skipL,skipP,Act.put,List.setIfInBounds_toArray,List.set_cons_zero,List.set_cons_succ]
     refine' tkE 28 50 hS ?_ ?_; rotate_left
     ·intro W' hSW; go_simp; (try with_reducible rfl)
     simp only [Act.put,List.setIfInBounds_toArray,List.set_cons_zero,List.set_cons_succ]
     refine wpAnyH_done (by kernel_rfl) ?_ _
     go_wp2
     go_ret
     exact ⟨by rw [hno.out]; rfl,HB2.out.drew.trans (hS.mono HB2.out.drew.size)⟩
    | true =>
     rcases Nat.eq_zero_or_pos i with hi00 | hpos
     ·have hgt : decide ((i : Int) > 0) = false:=decide_eq_false (by omega)
      have hgt2 : decide ((0 : Int) < (i : Int)) = false:=decide_eq_false (by omega)
      have hgt3 : (0 < i) = False:=eq_false (by omega)
      have hgt4 : decide (0 < i) = false:=decide_eq_false (by omega)
      have HRI : Aside0 ((decide (i = 0) || ltP (l.getD (i - 1) z41).f0 x.f0) = true):=⟨by rw [decide_eq_true hi00]; rfl⟩
      have HI0:=Aside0.mk hi00
      clear hi00
      by_cases hka : x.f1 < 1
      ·have hka2 : decide (x.f1 < 1) = true:=decide_eq_true hka
       have hno : Aside0 (T = false):=HNO.out (by unfold stepR thingB; rw [decide_eq_false (show ¬ (1 : Int) ≤ x.f1 by omega)]; simp)
       clear hka hLn
       refine wp_region_held_drew (S:=Below wr2.drew.heap.size wr2.drew) (by kernel_rfl) (Below.refl _ _) (fun hS => ?_)
       refine' tkE 0 22 hS ?_ ?_; rotate_left
       ·intro W' hSW; go_simp; (try with_reducible rfl)
       refine' tkE 1 23 hS ?_ ?_; rotate_left
       ·intro W' hSW; obtain ⟨k0,k1,k2,k3⟩:=cells4 (blk_below (blk_drew HXB.out) hSW); go_simp; (try with_reducible rfl)
       simp only [Act.put,List.setIfInBounds_toArray,List.set_cons_zero,List.set_cons_succ]
       refine wpAnyH_ready (rs:=[2]) (by kernel_rfl) (by simp) (AllReadyH.cons rfl (fun K hK => ?_) AllReadyH.nil)
       go_simp
       refine (hRt _).mono ?_
       rintro e W2 ⟨rfl,hb⟩
       have hS:=hS.trans (hb.mono hS.size)
       clear hb
       refine hK.out _ _ hS (fun _ => ?_)
       clear hK K
       refine' tkE 3 25 hS ?_ ?_; rotate_left
       ·intro W' hSW; go_simp; (try with_reducible rfl)
       refine' tkE 4 26 hS ?_ ?_; rotate_left
       ·intro W' hSW; go_simp; (try with_reducible rfl)
       refine' tkE 5 27 hS ?_ ?_; rotate_left
       ·intro W' hSW; go_simp; (try with_reducible rfl)
       refine' tkE 6 28 hS ?_ ?_; rotate_left
       ·intro W' hSW; go_simp; (try with_reducible rfl)
       refine' tkE 7 29 hS ?_ ?_; rotate_left
       ·intro W' hSW; go_simp; (try with_reducible rfl)
       simp only [Act.put,List.setIfInBounds_toArray,List.set_cons_zero,List.set_cons_succ]
       refine tkUs (fun _ _ _ _ h => h) hS [(8,30),(9,31),(10,32),(11,33),(12,34),(13,35),(14,36),(15,37),(16,38)] 12 rfl (by kernel_rfl) ?_
       simp only [skipL,skipP,Act.put,List.setIfInBounds_toArray,List.set_cons_zero,List.set_cons_succ]
       refine' tkE 17 39 hS ?_ ?_; rotate_left
       ·intro W' hSW; go_simp; (try with_reducible rfl)
       refine' tkE 18 40 hS ?_ ?_; rotate_left
       ·intro W' hSW; go_simp; (try with_reducible rfl)
       refine' tkE 19 41 hS ?_ ?_; rotate_left
       ·intro W' hSW; go_simp; (try with_reducible rfl)
       refine' tkE 20 42 hS ?_ ?_; rotate_left
       ·intro W' hSW; go_simp; (try with_reducible rfl)
       refine' tkE 21 43 hS ?_ ?_; rotate_left
       ·intro W' hSW; obtain ⟨k0,k1,k2,k3⟩:=cells4 (blk_below (blk_drew HXB.out) hSW); go_simp; (try with_reducible rfl)
       refine' tkE 22 44 hS ?_ ?_; rotate_left
       ·intro W' hSW; go_simp; (try with_reducible rfl)
       refine' tkE 23 45 hS ?_ ?_; rotate_left
       ·intro W' hSW; go_simp; (try with_reducible rfl)
       refine' tkE 24 46 hS ?_ ?_; rotate_left
       ·intro W' hSW; go_simp; (try with_reducible rfl)
       simp only [Act.put,List.setIfInBounds_toArray,List.set_cons_zero,List.set_cons_succ]
       refine tkUs (fun _ _ _ _ h => h) hS [(25,47),(26,48),(27,49)] 1 rfl (by kernel_rfl) ?_
       simp only [skipL,skipP,Act.put,List.setIfInBounds_toArray,List.set_cons_zero,List.set_cons_succ]
       refine' tkE 28 50 hS ?_ ?_; rotate_left
       ·intro W' hSW; go_simp; (try with_reducible rfl)
       simp only [Act.put,List.setIfInBounds_toArray,List.set_cons_zero,List.set_cons_succ]
       refine wpAnyH_done (by kernel_rfl) ?_ _
       go_wp2
       go_ret
       exact ⟨by rw [hno.out]; rfl,HB2.out.drew.trans (hS.mono HB2.out.drew.size)⟩
      ·have hka2 : decide (x.f1 < 1) = false:=decide_eq_false hka
       replace hka : (1 : Int) ≤ x.f1:=by omega
       by_cases hkb : x.f1 > 3
       ·have hkb2 : decide (x.f1 > 3) = true:=decide_eq_true hkb
        have hkb3 : decide ((3 : Int) < x.f1) = true:=decide_eq_true hkb
        have hno : Aside0 (T = false):=HNO.out (by unfold stepR thingB; rw [decide_eq_false (show ¬ x.f1 ≤ 3 by omega)]; simp)
        clear hka hkb hLn
        refine wp_region_held_drew (S:=Below wr2.drew.heap.size wr2.drew) (by kernel_rfl) (Below.refl _ _) (fun hS => ?_)
        refine' tkE 0 22 hS ?_ ?_; rotate_left
        ·intro W' hSW; go_simp; (try with_reducible rfl)
        refine' tkE 1 23 hS ?_ ?_; rotate_left
        ·intro W' hSW; obtain ⟨k0,k1,k2,k3⟩:=cells4 (blk_below (blk_drew HXB.out) hSW); go_simp; (try with_reducible rfl)
        simp only [Act.put,List.setIfInBounds_toArray,List.set_cons_zero,List.set_cons_succ]
        refine wpAnyH_ready (rs:=[2]) (by kernel_rfl) (by simp) (AllReadyH.cons rfl (fun K hK => ?_) AllReadyH.nil)
        go_simp
        refine (hRt _).mono ?_
        rintro e W2 ⟨rfl,hb⟩
        have hS:=hS.trans (hb.mono hS.size)
        clear hb
        refine hK.out _ _ hS (fun _ => ?_)
        clear hK K
        refine' tkE 3 25 hS ?_ ?_; rotate_left
        ·intro W' hSW; go_simp; (try with_reducible rfl)
        refine' tkE 4 26 hS ?_ ?_; rotate_left
        ·intro W' hSW; go_simp; (try with_reducible rfl)
        refine' tkE 5 27 hS ?_ ?_; rotate_left
        ·intro W' hSW; go_simp; (try with_reducible rfl)
        refine' tkE 6 28 hS ?_ ?_; rotate_left
        ·intro W' hSW; go_simp; (try with_reducible rfl)
        refine' tkE 7 29 hS ?_ ?_; rotate_left
        ·intro W' hSW; go_simp; (try with_reducible rfl)
        simp only [Act.put,List.setIfInBounds_toArray,List.set_cons_zero,List.set_cons_succ]
        refine tkUs (fun _ _ _ _ h => h) hS [(8,30),(9,31),(10,32),(11,33),(12,34),(13,35),(14,36),(15,37),(16,38)] 12 rfl (by kernel_rfl) ?_
        simp only [skipL,skipP,Act.put,List.setIfInBounds_toArray,List.set_cons_zero,List.set_cons_succ]
        refine' tkE 17 39 hS ?_ ?_; rotate_left
        ·intro W' hSW; go_simp; (try with_reducible rfl)
        refine' tkE 18 40 hS ?_ ?_; rotate_left
        ·intro W' hSW; go_simp; (try with_reducible rfl)
        refine' tkE 19 41 hS ?_ ?_; rotate_left
        ·intro W' hSW; go_simp; (try with_reducible rfl)
        refine' tkE 20 42 hS ?_ ?_; rotate_left
        ·intro W' hSW; go_simp; (try with_reducible rfl)
        refine' tkE 21 43 hS ?_ ?_; rotate_left
        ·intro W' hSW; obtain ⟨k0,k1,k2,k3⟩:=cells4 (blk_below (blk_drew HXB.out) hSW); go_simp; (try with_reducible rfl)
        refine' tkE 22 44 hS ?_ ?_; rotate_left
        ·intro W' hSW; go_simp; (try with_reducible rfl)
        refine' tkE 23 45 hS ?_ ?_; rotate_left
        ·intro W' hSW; go_simp; (try with_reducible rfl)
        refine' tkE 24 46 hS ?_ ?_; rotate_left
        ·intro W' hSW; go_simp; (try with_reducible rfl)
        refine' tkE 25 47 hS ?_ ?_; rotate_left
        ·intro W' hSW; go_simp; (try with_reducible rfl)
        refine' tkE 26 48 hS ?_ ?_; rotate_left
        ·intro W' hSW; obtain ⟨k0,k1,k2,k3⟩:=cells4 (blk_below (blk_drew HXB.out) hSW); go_simp; (try with_reducible rfl)
        refine' tkE 27 49 hS ?_ ?_; rotate_left
        ·intro W' hSW; go_simp; (try with_reducible rfl)
        refine' tkE 28 50 hS ?_ ?_; rotate_left
        ·intro W' hSW; go_simp; (try with_reducible rfl)
        simp only [Act.put,List.setIfInBounds_toArray,List.set_cons_zero,List.set_cons_succ]
        refine wpAnyH_done (by kernel_rfl) ?_ _
        go_wp2
        go_ret
        exact ⟨by rw [hno.out]; rfl,HB2.out.drew.trans (hS.mono HB2.out.drew.size)⟩
       ·have hkb2 : decide (x.f1 > 3) = false:=decide_eq_false hkb
        have hkb3 : decide ((3 : Int) < x.f1) = false:=decide_eq_false hkb
        replace hkb : x.f1 ≤ 3:=by omega
        refine wp_region_held_drew (S:=Below wr2.drew.heap.size wr2.drew) (by kernel_rfl) (Below.refl _ _) (fun hS => ?_)
        refine' tkE 0 22 hS ?_ ?_; rotate_left
        ·intro W' hSW; go_simp; (try with_reducible rfl)
        refine' tkE 1 23 hS ?_ ?_; rotate_left
        ·intro W' hSW; obtain ⟨k0,k1,k2,k3⟩:=cells4 (blk_below (blk_drew HXB.out) hSW); go_simp; (try with_reducible rfl)
        simp only [Act.put,List.setIfInBounds_toArray,List.set_cons_zero,List.set_cons_succ]
        refine wpAnyH_ready (rs:=[2]) (by kernel_rfl) (by simp) (AllReadyH.cons rfl (fun K hK => ?_) AllReadyH.nil)
        go_simp
        refine (hRt _).mono ?_
        rintro e W2 ⟨rfl,hb⟩
        have hS:=hS.trans (hb.mono hS.size)
        clear hb
        refine hK.out _ _ hS (fun _ => ?_)
        clear hK K
        refine' tkE 3 25 hS ?_ ?_; rotate_left
        ·intro W' hSW; go_simp; (try with_reducible rfl)
        refine' tkE 4 26 hS ?_ ?_; rotate_left
        ·intro W' hSW; go_simp; (try with_reducible rfl)
        refine' tkE 5 27 hS ?_ ?_; rotate_left
        ·intro W' hSW; go_simp; (try with_reducible rfl)
        refine' tkE 6 28 hS ?_ ?_; rotate_left
        ·intro W' hSW; go_simp; (try with_reducible rfl)
        refine' tkE 7 29 hS ?_ ?_; rotate_left
        ·intro W' hSW; go_simp; (try with_reducible rfl)
        simp only [Act.put,List.setIfInBounds_toArray,List.set_cons_zero,List.set_cons_succ]
        refine tkUs (fun _ _ _ _ h => h) hS [(8,30),(9,31),(10,32),(11,33),(12,34),(13,35),(14,36),(15,37),(16,38)] 12 rfl (by kernel_rfl) ?_
        simp only [skipL,skipP,Act.put,List.setIfInBounds_toArray,List.set_cons_zero,List.set_cons_succ]
        refine' tkE 17 39 hS ?_ ?_; rotate_left
        ·intro W' hSW; go_simp; (try with_reducible rfl)
        refine' tkE 18 40 hS ?_ ?_; rotate_left
        ·intro W' hSW; go_simp; (try with_reducible rfl)
        refine' tkE 19 41 hS ?_ ?_; rotate_left
        ·intro W' hSW; go_simp; (try with_reducible rfl)
        refine' tkE 20 42 hS ?_ ?_; rotate_left
        ·intro W' hSW; go_simp; (try with_reducible rfl)
        refine' tkE 21 43 hS ?_ ?_; rotate_left
        ·intro W' hSW; obtain ⟨k0,k1,k2,k3⟩:=cells4 (blk_below (blk_drew HXB.out) hSW); go_simp; (try with_reducible rfl)
        refine' tkE 22 44 hS ?_ ?_; rotate_left
        ·intro W' hSW; go_simp; (try with_reducible rfl)
        refine' tkE 23 45 hS ?_ ?_; rotate_left
        ·intro W' hSW; go_simp; (try with_reducible rfl)
        refine' tkE 24 46 hS ?_ ?_; rotate_left
        ·intro W' hSW; go_simp; (try with_reducible rfl)
        refine' tkE 25 47 hS ?_ ?_; rotate_left
        ·intro W' hSW; go_simp; (try with_reducible rfl)
        refine' tkE 26 48 hS ?_ ?_; rotate_left
        ·intro W' hSW; obtain ⟨k0,k1,k2,k3⟩:=cells4 (blk_below (blk_drew HXB.out) hSW); go_simp; (try with_reducible rfl)
        refine' tkE 27 49 hS ?_ ?_; rotate_left
        ·intro W' hSW; go_simp; (try with_reducible rfl)
        refine' tkE 28 50 hS ?_ ?_; rotate_left
        ·intro W' hSW; go_simp; (try with_reducible rfl)
        simp only [Act.put,List.setIfInBounds_toArray,List.set_cons_zero,List.set_cons_succ]
        refine wpAnyH_done (by kernel_rfl) ?_ _
        have HS2:=Aside0.mk (HB2.out.drew.trans (hS.mono HB2.out.drew.size))
        have hX2:=blk_below (blk_drew HXB.out) hS
        obtain ⟨k0,k1,k2,k3⟩:=cells4 hX2
        have hS2 : Below wr2.heap.size wr2 W2:=(below_drew (Below.refl _ _)).trans hS
        clear hS hRt
        cases hl1 : linesB x.f2 with
        | false =>
         rw [hl1] at hLn
         replace hLn:=Aside0.mk hLn
         have hno : Aside0 (T = false):=HNO.out (by unfold stepR thingB; rw [hl1]; simp)
         go_wp2_with (go_at_call 70; refine (hLn.out _ hS2).mono ?_; rintro e w5 ⟨rfl,hb5⟩; have hX5:=blk_below hX2 hb5; obtain ⟨j0,j1,j2,j3⟩:=cells4 hX5; clear k0 k1 k2 k3; have HB5:=Aside0.mk (HS2.out.trans (hb5.mono HS2.out.size)); replace hX5:=Aside0.mk hX5; clear hb5)
         go_ret
         exact ⟨by rw [hno.out]; rfl,HB5.out⟩
        | true =>
         rw [hl1] at hLn
         replace hLn:=Aside0.mk hLn
         have hkc : x.f1 = 1 ∨ x.f1 = 2 ∨ x.f1 = 3:=by omega
         have hthd : thingB x = ((decide (x.f1 = 2) || decide (x.f2.length = 0)) && (decide (x.f1 = 3) || decide (x.f3.toList = []))):=by unfold thingB; rw [HC1.out,hl1,decide_eq_true hka,decide_eq_true hkb]; simp
         have HL1:=Aside0.mk hl1
         have hnn : (0 : Int) ≤ (x.f2.length : Int):=by omega
         clear hl1 hka hkb hka2 hkb2
         rcases hkc with hk | hk | hk
         ·have n2 : (x.f1 != 2) = true:=by rw [hk]; rfl
          have n3 : (x.f1 != 3) = true:=by rw [hk]; rfl
          have hthd2:=hthd
          rw [hk] at hthd2
          replace hk:=Aside0.mk hk
          clear hthd
          by_cases hz : x.f2.length = 0
          ·have hg : decide ((x.f2.length : Int) > 0) = false:=decide_eq_false (by omega)
           have hg' : decide ((0 : Int) < (x.f2.length : Int)) = false:=decide_eq_false (by omega)
           have hg3:=Aside0.mk hz
           have hg4 : (0 < x.f2.length) = False:=eq_false (by omega)
           have hg5 : (x.f2 = []) = True:=eq_true (List.eq_nil_of_length_eq_zero hz)
           have hg6 : decide (0 < x.f2.length) = false:=decide_eq_false (by omega)
           have hz' : decide (x.f2.length = 0) = true:=decide_eq_true hz
           rw [hz'] at hthd2
           clear hz hz'
           cases hd : (x.f3.toList == ([] : List UInt8)) with
           | false =>
            have hd2 : (x.f3.toList != ([] : List UInt8)) = true:=by rw [bne,hd]; rfl
            have hd3 : x.f3.toList.isEmpty = false:=by cases h : x.f3.toList with | nil => rw [h] at hd; cases hd | cons a b => rfl
            have hno : Aside0 (T = false):=HNO.out (by have e : decide (x.f3.toList = []) = false:=(by rw [decide_eq_false_iff_not]; intro k; rw [k] at hd; cases hd); unfold stepR; rw [hthd2,e]; simp)
            replace hd:=Aside0.mk hd
            clear hthd2
            go_wp2_with (go_at_call 70; refine (hLn.out _ hS2).mono ?_; rintro e w5 ⟨rfl,hb5⟩; have hX5:=blk_below hX2 hb5; obtain ⟨j0,j1,j2,j3⟩:=cells4 hX5; clear k0 k1 k2 k3; have HB5:=Aside0.mk (HS2.out.trans (hb5.mono HS2.out.size)); replace hX5:=Aside0.mk hX5; clear hb5)
            go_ret
            exact ⟨by rw [hno.out]; rfl,HB5.out⟩
           | true =>
            have hd2 : (x.f3.toList != ([] : List UInt8)) = false:=by rw [bne,hd]; rfl
            have hd3 : x.f3.toList.isEmpty = true:=by cases h : x.f3.toList with | nil => rfl | cons a b => rw [h] at hd; cases hd
            have hth : thingB x = true:=by have e : decide (x.f3.toList = []) = true:=decide_eq_true (by simpa using hd); rw [hthd2,e]; simp
            replace hd:=Aside0.mk hd
            clear hthd2
            cases hup : parentV x.f0 with
            | none =>
             rw [hup] at hPa
             have hyes : Aside0 (stepR l i x = true):=⟨by unfold stepR parR; rw [HTH.out hth,HRI.out,hup]; rfl⟩
             replace hPa:=Aside0.mk hPa
             replace hup:=Aside0.mk hup
             clear hth
             go_wp2_with (first | (go_at_call 70; refine (hLn.out _ hS2).mono ?_; rintro e w5 ⟨rfl,hb5⟩; have hX5:=blk_below hX2 hb5; obtain ⟨j0,j1,j2,j3⟩:=cells4 hX5; clear k0 k1 k2 k3; have HB5:=Aside0.mk (HS2.out.trans (hb5.mono HS2.out.size)); replace hX5:=Aside0.mk hX5; clear hb5) | (go_at_call 35; refine (hPa.out _).mono ?_; rintro e w6 ⟨rfl,hb6⟩; have HB6:=Aside0.mk (HB5.out.trans (hb6.mono HB5.out.size)); clear j0 j1 j2 j3 hb6))
             go_roundg (l.length - (i + 1))
             case measure => omega
             case rel => exact ⟨i + 1,by first | rfl | (rw [hwi]),by omega,HB6,HNX.out hyes.out⟩
            | some up =>
             rw [hup] at hPa
             have hFd:=fun U h => find_at l (some ad) c up w HR.out HC.out HN.out U h
             obtain ⟨y,hy⟩ : ∃ y,thingAt l up = y:=⟨_,rfl⟩
             obtain ⟨fd,hfd⟩ : ∃ fd,(findV l up).isSome = fd:=⟨_,rfl⟩
             rw [hy,hfd] at hFd
             have hst : Aside0 (stepR l i x = (fd && (y.f1 == 1))):=⟨by unfold stepR parR; rw [HTH.out hth,HRI.out,hup]; show (true && true && ((findV l up).isSome && (thingAt l up).f1 == 1)) = _; rw [hy,hfd]; rfl⟩
             replace hPa:=Aside0.mk hPa
             replace hFd:=Aside0.mk hFd
             replace hup:=Aside0.mk hup
             clear hy hfd hth
             cases fd with
             | false =>
              have hno : Aside0 (T = false):=HNO.out (by rw [hst.out]; rfl)
              go_wp2_with (first | (go_at_call 70; refine (hLn.out _ hS2).mono ?_; rintro e w5 ⟨rfl,hb5⟩; have hX5:=blk_below hX2 hb5; obtain ⟨j0,j1,j2,j3⟩:=cells4 hX5; clear k0 k1 k2 k3; have HB5:=Aside0.mk (HS2.out.trans (hb5.mono HS2.out.size)); replace hX5:=Aside0.mk hX5; clear hb5) | (go_at_call 35; refine (hPa.out _).mono ?_; rintro e w6 ⟨rfl,hb6⟩; have HB6:=Aside0.mk (HB5.out.trans (hb6.mono HB5.out.size)); clear j0 j1 j2 j3 hb6) | (go_at_call 33; refine (hFd.out _ HB6.out).mono ?_; rintro e w7 ⟨X7,d7,rfl,hd7,hC7,hb7⟩; have HB7:=Aside0.mk (HB6.out.trans (hb7.mono HB6.out.size)); have HB8 : Aside0 (Below w.heap.size w (w7.alloc (.cells #[.string y.f0,.int .i64 y.f1,.slice X7 y.f2.length d7,.string y.f3] 41))):=⟨below_alloc HB7.out _⟩; obtain ⟨m0,m1,m2,m3⟩:=cells4 (blk_new w7 (.cells #[.string y.f0,.int .i64 y.f1,.slice X7 y.f2.length d7,.string y.f3] 41)); clear hd7 hC7 hb7))
              go_ret
              exact ⟨by rw [hno.out]; rfl,HB8.out⟩
             | true =>
              cases hk1 : (y.f1 == 1) with
              | false =>
               have hk2 : (y.f1 != 1) = true:=by rw [bne,hk1]; rfl
               have hno : Aside0 (T = false):=HNO.out (by rw [hst.out,hk1]; rfl)
               replace hk1:=Aside0.mk hk1
               go_wp2_with (first | (go_at_call 70; refine (hLn.out _ hS2).mono ?_; rintro e w5 ⟨rfl,hb5⟩; have hX5:=blk_below hX2 hb5; obtain ⟨j0,j1,j2,j3⟩:=cells4 hX5; clear k0 k1 k2 k3; have HB5:=Aside0.mk (HS2.out.trans (hb5.mono HS2.out.size)); replace hX5:=Aside0.mk hX5; clear hb5) | (go_at_call 35; refine (hPa.out _).mono ?_; rintro e w6 ⟨rfl,hb6⟩; have HB6:=Aside0.mk (HB5.out.trans (hb6.mono HB5.out.size)); clear j0 j1 j2 j3 hb6) | (go_at_call 33; refine (hFd.out _ HB6.out).mono ?_; rintro e w7 ⟨X7,d7,rfl,hd7,hC7,hb7⟩; have HB7:=Aside0.mk (HB6.out.trans (hb7.mono HB6.out.size)); have HB8 : Aside0 (Below w.heap.size w (w7.alloc (.cells #[.string y.f0,.int .i64 y.f1,.slice X7 y.f2.length d7,.string y.f3] 41))):=⟨below_alloc HB7.out _⟩; obtain ⟨m0,m1,m2,m3⟩:=cells4 (blk_new w7 (.cells #[.string y.f0,.int .i64 y.f1,.slice X7 y.f2.length d7,.string y.f3] 41)); clear hd7 hC7 hb7))
               go_ret
               exact ⟨by rw [hno.out]; rfl,HB8.out⟩
              | true =>
               have hk2 : (y.f1 != 1) = false:=by rw [bne,hk1]; rfl
               have hyes : Aside0 (stepR l i x = true):=⟨by rw [hst.out,hk1]; rfl⟩
               replace hk1:=Aside0.mk hk1
               go_wp2_with (first | (go_at_call 70; refine (hLn.out _ hS2).mono ?_; rintro e w5 ⟨rfl,hb5⟩; have hX5:=blk_below hX2 hb5; obtain ⟨j0,j1,j2,j3⟩:=cells4 hX5; clear k0 k1 k2 k3; have HB5:=Aside0.mk (HS2.out.trans (hb5.mono HS2.out.size)); replace hX5:=Aside0.mk hX5; clear hb5) | (go_at_call 35; refine (hPa.out _).mono ?_; rintro e w6 ⟨rfl,hb6⟩; have HB6:=Aside0.mk (HB5.out.trans (hb6.mono HB5.out.size)); clear j0 j1 j2 j3 hb6) | (go_at_call 33; refine (hFd.out _ HB6.out).mono ?_; rintro e w7 ⟨X7,d7,rfl,hd7,hC7,hb7⟩; have HB7:=Aside0.mk (HB6.out.trans (hb7.mono HB6.out.size)); have HB8 : Aside0 (Below w.heap.size w (w7.alloc (.cells #[.string y.f0,.int .i64 y.f1,.slice X7 y.f2.length d7,.string y.f3] 41))):=⟨below_alloc HB7.out _⟩; obtain ⟨m0,m1,m2,m3⟩:=cells4 (blk_new w7 (.cells #[.string y.f0,.int .i64 y.f1,.slice X7 y.f2.length d7,.string y.f3] 41)); clear hd7 hC7 hb7))
               go_roundg (l.length - (i + 1))
               case measure => omega
               case rel => exact ⟨i + 1,by first | rfl | (rw [hwi]),by omega,HB8,HNX.out hyes.out⟩
          ·have hg : decide ((x.f2.length : Int) > 0) = true:=decide_eq_true (by omega)
           have hg' : decide ((0 : Int) < (x.f2.length : Int)) = true:=decide_eq_true (by omega)
           have hg3:=Aside0.mk hz
           have hg4 : (0 < x.f2.length) = True:=eq_true (by omega)
           have hg5 : (x.f2 = []) = False:=eq_false (fun k => hz (by rw [k]; rfl))
           have hg6 : decide (0 < x.f2.length) = true:=decide_eq_true (by omega)
           have hz' : decide (x.f2.length = 0) = false:=decide_eq_false hz
           rw [hz'] at hthd2
           clear hz
           have hno : Aside0 (T = false):=HNO.out (by unfold stepR; rw [hthd2]; simp)
           clear hthd2
           go_wp2_with (go_at_call 70; refine (hLn.out _ hS2).mono ?_; rintro e w5 ⟨rfl,hb5⟩; have hX5:=blk_below hX2 hb5; obtain ⟨j0,j1,j2,j3⟩:=cells4 hX5; clear k0 k1 k2 k3; have HB5:=Aside0.mk (HS2.out.trans (hb5.mono HS2.out.size)); replace hX5:=Aside0.mk hX5; clear hb5)
           go_ret
           exact ⟨by rw [hno.out]; rfl,HB5.out⟩
         ·have n2 : (x.f1 != 2) = false:=by rw [hk]; rfl
          have n3 : (x.f1 != 3) = true:=by rw [hk]; rfl
          have hthd2:=hthd
          rw [hk] at hthd2
          replace hk:=Aside0.mk hk
          clear hthd
          cases hd : (x.f3.toList == ([] : List UInt8)) with
          | false =>
           have hd2 : (x.f3.toList != ([] : List UInt8)) = true:=by rw [bne,hd]; rfl
           have hd3 : x.f3.toList.isEmpty = false:=by cases h : x.f3.toList with | nil => rw [h] at hd; cases hd | cons a b => rfl
           have hno : Aside0 (T = false):=HNO.out (by have e : decide (x.f3.toList = []) = false:=(by rw [decide_eq_false_iff_not]; intro k; rw [k] at hd; cases hd); unfold stepR; rw [hthd2,e]; simp)
           replace hd:=Aside0.mk hd
           clear hthd2
           go_wp2_with (go_at_call 70; refine (hLn.out _ hS2).mono ?_; rintro e w5 ⟨rfl,hb5⟩; have hX5:=blk_below hX2 hb5; obtain ⟨j0,j1,j2,j3⟩:=cells4 hX5; clear k0 k1 k2 k3; have HB5:=Aside0.mk (HS2.out.trans (hb5.mono HS2.out.size)); replace hX5:=Aside0.mk hX5; clear hb5)
           go_ret
           exact ⟨by rw [hno.out]; rfl,HB5.out⟩
          | true =>
           have hd2 : (x.f3.toList != ([] : List UInt8)) = false:=by rw [bne,hd]; rfl
           have hd3 : x.f3.toList.isEmpty = true:=by cases h : x.f3.toList with | nil => rfl | cons a b => rw [h] at hd; cases hd
           have hth : thingB x = true:=by have e : decide (x.f3.toList = []) = true:=decide_eq_true (by simpa using hd); rw [hthd2,e]; simp
           replace hd:=Aside0.mk hd
           clear hthd2
           cases hup : parentV x.f0 with
           | none =>
            rw [hup] at hPa
            have hyes : Aside0 (stepR l i x = true):=⟨by unfold stepR parR; rw [HTH.out hth,HRI.out,hup]; rfl⟩
            replace hPa:=Aside0.mk hPa
            replace hup:=Aside0.mk hup
            clear hth
            go_wp2_with (first | (go_at_call 70; refine (hLn.out _ hS2).mono ?_; rintro e w5 ⟨rfl,hb5⟩; have hX5:=blk_below hX2 hb5; obtain ⟨j0,j1,j2,j3⟩:=cells4 hX5; clear k0 k1 k2 k3; have HB5:=Aside0.mk (HS2.out.trans (hb5.mono HS2.out.size)); replace hX5:=Aside0.mk hX5; clear hb5) | (go_at_call 35; refine (hPa.out _).mono ?_; rintro e w6 ⟨rfl,hb6⟩; have HB6:=Aside0.mk (HB5.out.trans (hb6.mono HB5.out.size)); clear j0 j1 j2 j3 hb6))
            go_roundg (l.length - (i + 1))
            case measure => omega
            case rel => exact ⟨i + 1,by first | rfl | (rw [hwi]),by omega,HB6,HNX.out hyes.out⟩
           | some up =>
            rw [hup] at hPa
            have hFd:=fun U h => find_at l (some ad) c up w HR.out HC.out HN.out U h
            obtain ⟨y,hy⟩ : ∃ y,thingAt l up = y:=⟨_,rfl⟩
            obtain ⟨fd,hfd⟩ : ∃ fd,(findV l up).isSome = fd:=⟨_,rfl⟩
            rw [hy,hfd] at hFd
            have hst : Aside0 (stepR l i x = (fd && (y.f1 == 1))):=⟨by unfold stepR parR; rw [HTH.out hth,HRI.out,hup]; show (true && true && ((findV l up).isSome && (thingAt l up).f1 == 1)) = _; rw [hy,hfd]; rfl⟩
            replace hPa:=Aside0.mk hPa
            replace hFd:=Aside0.mk hFd
            replace hup:=Aside0.mk hup
            clear hy hfd hth
            cases fd with
            | false =>
             have hno : Aside0 (T = false):=HNO.out (by rw [hst.out]; rfl)
             go_wp2_with (first | (go_at_call 70; refine (hLn.out _ hS2).mono ?_; rintro e w5 ⟨rfl,hb5⟩; have hX5:=blk_below hX2 hb5; obtain ⟨j0,j1,j2,j3⟩:=cells4 hX5; clear k0 k1 k2 k3; have HB5:=Aside0.mk (HS2.out.trans (hb5.mono HS2.out.size)); replace hX5:=Aside0.mk hX5; clear hb5) | (go_at_call 35; refine (hPa.out _).mono ?_; rintro e w6 ⟨rfl,hb6⟩; have HB6:=Aside0.mk (HB5.out.trans (hb6.mono HB5.out.size)); clear j0 j1 j2 j3 hb6) | (go_at_call 33; refine (hFd.out _ HB6.out).mono ?_; rintro e w7 ⟨X7,d7,rfl,hd7,hC7,hb7⟩; have HB7:=Aside0.mk (HB6.out.trans (hb7.mono HB6.out.size)); have HB8 : Aside0 (Below w.heap.size w (w7.alloc (.cells #[.string y.f0,.int .i64 y.f1,.slice X7 y.f2.length d7,.string y.f3] 41))):=⟨below_alloc HB7.out _⟩; obtain ⟨m0,m1,m2,m3⟩:=cells4 (blk_new w7 (.cells #[.string y.f0,.int .i64 y.f1,.slice X7 y.f2.length d7,.string y.f3] 41)); clear hd7 hC7 hb7))
             go_ret
             exact ⟨by rw [hno.out]; rfl,HB8.out⟩
            | true =>
             cases hk1 : (y.f1 == 1) with
             | false =>
              have hk2 : (y.f1 != 1) = true:=by rw [bne,hk1]; rfl
              have hno : Aside0 (T = false):=HNO.out (by rw [hst.out,hk1]; rfl)
              replace hk1:=Aside0.mk hk1
              go_wp2_with (first | (go_at_call 70; refine (hLn.out _ hS2).mono ?_; rintro e w5 ⟨rfl,hb5⟩; have hX5:=blk_below hX2 hb5; obtain ⟨j0,j1,j2,j3⟩:=cells4 hX5; clear k0 k1 k2 k3; have HB5:=Aside0.mk (HS2.out.trans (hb5.mono HS2.out.size)); replace hX5:=Aside0.mk hX5; clear hb5) | (go_at_call 35; refine (hPa.out _).mono ?_; rintro e w6 ⟨rfl,hb6⟩; have HB6:=Aside0.mk (HB5.out.trans (hb6.mono HB5.out.size)); clear j0 j1 j2 j3 hb6) | (go_at_call 33; refine (hFd.out _ HB6.out).mono ?_; rintro e w7 ⟨X7,d7,rfl,hd7,hC7,hb7⟩; have HB7:=Aside0.mk (HB6.out.trans (hb7.mono HB6.out.size)); have HB8 : Aside0 (Below w.heap.size w (w7.alloc (.cells #[.string y.f0,.int .i64 y.f1,.slice X7 y.f2.length d7,.string y.f3] 41))):=⟨below_alloc HB7.out _⟩; obtain ⟨m0,m1,m2,m3⟩:=cells4 (blk_new w7 (.cells #[.string y.f0,.int .i64 y.f1,.slice X7 y.f2.length d7,.string y.f3] 41)); clear hd7 hC7 hb7))
              go_ret
              exact ⟨by rw [hno.out]; rfl,HB8.out⟩
             | true =>
              have hk2 : (y.f1 != 1) = false:=by rw [bne,hk1]; rfl
              have hyes : Aside0 (stepR l i x = true):=⟨by rw [hst.out,hk1]; rfl⟩
              replace hk1:=Aside0.mk hk1
              go_wp2_with (first | (go_at_call 70; refine (hLn.out _ hS2).mono ?_; rintro e w5 ⟨rfl,hb5⟩; have hX5:=blk_below hX2 hb5; obtain ⟨j0,j1,j2,j3⟩:=cells4 hX5; clear k0 k1 k2 k3; have HB5:=Aside0.mk (HS2.out.trans (hb5.mono HS2.out.size)); replace hX5:=Aside0.mk hX5; clear hb5) | (go_at_call 35; refine (hPa.out _).mono ?_; rintro e w6 ⟨rfl,hb6⟩; have HB6:=Aside0.mk (HB5.out.trans (hb6.mono HB5.out.size)); clear j0 j1 j2 j3 hb6) | (go_at_call 33; refine (hFd.out _ HB6.out).mono ?_; rintro e w7 ⟨X7,d7,rfl,hd7,hC7,hb7⟩; have HB7:=Aside0.mk (HB6.out.trans (hb7.mono HB6.out.size)); have HB8 : Aside0 (Below w.heap.size w (w7.alloc (.cells #[.string y.f0,.int .i64 y.f1,.slice X7 y.f2.length d7,.string y.f3] 41))):=⟨below_alloc HB7.out _⟩; obtain ⟨m0,m1,m2,m3⟩:=cells4 (blk_new w7 (.cells #[.string y.f0,.int .i64 y.f1,.slice X7 y.f2.length d7,.string y.f3] 41)); clear hd7 hC7 hb7))
              go_roundg (l.length - (i + 1))
              case measure => omega
              case rel => exact ⟨i + 1,by first | rfl | (rw [hwi]),by omega,HB8,HNX.out hyes.out⟩
         ·have n2 : (x.f1 != 2) = true:=by rw [hk]; rfl
          have n3 : (x.f1 != 3) = false:=by rw [hk]; rfl
          have hthd2:=hthd
          rw [hk] at hthd2
          replace hk:=Aside0.mk hk
          clear hthd
          by_cases hz : x.f2.length = 0
          ·have hg : decide ((x.f2.length : Int) > 0) = false:=decide_eq_false (by omega)
           have hg' : decide ((0 : Int) < (x.f2.length : Int)) = false:=decide_eq_false (by omega)
           have hg3:=Aside0.mk hz
           have hg4 : (0 < x.f2.length) = False:=eq_false (by omega)
           have hg5 : (x.f2 = []) = True:=eq_true (List.eq_nil_of_length_eq_zero hz)
           have hg6 : decide (0 < x.f2.length) = false:=decide_eq_false (by omega)
           have hz' : decide (x.f2.length = 0) = true:=decide_eq_true hz
           rw [hz'] at hthd2
           clear hz hz'
           have hth : thingB x = true:=by rw [hthd2]; simp
           clear hthd2
           cases hup : parentV x.f0 with
           | none =>
            rw [hup] at hPa
            have hyes : Aside0 (stepR l i x = true):=⟨by unfold stepR parR; rw [HTH.out hth,HRI.out,hup]; rfl⟩
            replace hPa:=Aside0.mk hPa
            replace hup:=Aside0.mk hup
            clear hth
            go_wp2_with (first | (go_at_call 70; refine (hLn.out _ hS2).mono ?_; rintro e w5 ⟨rfl,hb5⟩; have hX5:=blk_below hX2 hb5; obtain ⟨j0,j1,j2,j3⟩:=cells4 hX5; clear k0 k1 k2 k3; have HB5:=Aside0.mk (HS2.out.trans (hb5.mono HS2.out.size)); replace hX5:=Aside0.mk hX5; clear hb5) | (go_at_call 35; refine (hPa.out _).mono ?_; rintro e w6 ⟨rfl,hb6⟩; have HB6:=Aside0.mk (HB5.out.trans (hb6.mono HB5.out.size)); clear j0 j1 j2 j3 hb6))
            go_roundg (l.length - (i + 1))
            case measure => omega
            case rel => exact ⟨i + 1,by first | rfl | (rw [hwi]),by omega,HB6,HNX.out hyes.out⟩
           | some up =>
            rw [hup] at hPa
            have hFd:=fun U h => find_at l (some ad) c up w HR.out HC.out HN.out U h
            obtain ⟨y,hy⟩ : ∃ y,thingAt l up = y:=⟨_,rfl⟩
            obtain ⟨fd,hfd⟩ : ∃ fd,(findV l up).isSome = fd:=⟨_,rfl⟩
            rw [hy,hfd] at hFd
            have hst : Aside0 (stepR l i x = (fd && (y.f1 == 1))):=⟨by unfold stepR parR; rw [HTH.out hth,HRI.out,hup]; show (true && true && ((findV l up).isSome && (thingAt l up).f1 == 1)) = _; rw [hy,hfd]; rfl⟩
            replace hPa:=Aside0.mk hPa
            replace hFd:=Aside0.mk hFd
            replace hup:=Aside0.mk hup
            clear hy hfd hth
            cases fd with
            | false =>
             have hno : Aside0 (T = false):=HNO.out (by rw [hst.out]; rfl)
             go_wp2_with (first | (go_at_call 70; refine (hLn.out _ hS2).mono ?_; rintro e w5 ⟨rfl,hb5⟩; have hX5:=blk_below hX2 hb5; obtain ⟨j0,j1,j2,j3⟩:=cells4 hX5; clear k0 k1 k2 k3; have HB5:=Aside0.mk (HS2.out.trans (hb5.mono HS2.out.size)); replace hX5:=Aside0.mk hX5; clear hb5) | (go_at_call 35; refine (hPa.out _).mono ?_; rintro e w6 ⟨rfl,hb6⟩; have HB6:=Aside0.mk (HB5.out.trans (hb6.mono HB5.out.size)); clear j0 j1 j2 j3 hb6) | (go_at_call 33; refine (hFd.out _ HB6.out).mono ?_; rintro e w7 ⟨X7,d7,rfl,hd7,hC7,hb7⟩; have HB7:=Aside0.mk (HB6.out.trans (hb7.mono HB6.out.size)); have HB8 : Aside0 (Below w.heap.size w (w7.alloc (.cells #[.string y.f0,.int .i64 y.f1,.slice X7 y.f2.length d7,.string y.f3] 41))):=⟨below_alloc HB7.out _⟩; obtain ⟨m0,m1,m2,m3⟩:=cells4 (blk_new w7 (.cells #[.string y.f0,.int .i64 y.f1,.slice X7 y.f2.length d7,.string y.f3] 41)); clear hd7 hC7 hb7))
             go_ret
             exact ⟨by rw [hno.out]; rfl,HB8.out⟩
            | true =>
             cases hk1 : (y.f1 == 1) with
             | false =>
              have hk2 : (y.f1 != 1) = true:=by rw [bne,hk1]; rfl
              have hno : Aside0 (T = false):=HNO.out (by rw [hst.out,hk1]; rfl)
              replace hk1:=Aside0.mk hk1
              go_wp2_with (first | (go_at_call 70; refine (hLn.out _ hS2).mono ?_; rintro e w5 ⟨rfl,hb5⟩; have hX5:=blk_below hX2 hb5; obtain ⟨j0,j1,j2,j3⟩:=cells4 hX5; clear k0 k1 k2 k3; have HB5:=Aside0.mk (HS2.out.trans (hb5.mono HS2.out.size)); replace hX5:=Aside0.mk hX5; clear hb5) | (go_at_call 35; refine (hPa.out _).mono ?_; rintro e w6 ⟨rfl,hb6⟩; have HB6:=Aside0.mk (HB5.out.trans (hb6.mono HB5.out.size)); clear j0 j1 j2 j3 hb6) | (go_at_call 33; refine (hFd.out _ HB6.out).mono ?_; rintro e w7 ⟨X7,d7,rfl,hd7,hC7,hb7⟩; have HB7:=Aside0.mk (HB6.out.trans (hb7.mono HB6.out.size)); have HB8 : Aside0 (Below w.heap.size w (w7.alloc (.cells #[.string y.f0,.int .i64 y.f1,.slice X7 y.f2.length d7,.string y.f3] 41))):=⟨below_alloc HB7.out _⟩; obtain ⟨m0,m1,m2,m3⟩:=cells4 (blk_new w7 (.cells #[.string y.f0,.int .i64 y.f1,.slice X7 y.f2.length d7,.string y.f3] 41)); clear hd7 hC7 hb7))
              go_ret
              exact ⟨by rw [hno.out]; rfl,HB8.out⟩
             | true =>
              have hk2 : (y.f1 != 1) = false:=by rw [bne,hk1]; rfl
              have hyes : Aside0 (stepR l i x = true):=⟨by rw [hst.out,hk1]; rfl⟩
              replace hk1:=Aside0.mk hk1
              go_wp2_with (first | (go_at_call 70; refine (hLn.out _ hS2).mono ?_; rintro e w5 ⟨rfl,hb5⟩; have hX5:=blk_below hX2 hb5; obtain ⟨j0,j1,j2,j3⟩:=cells4 hX5; clear k0 k1 k2 k3; have HB5:=Aside0.mk (HS2.out.trans (hb5.mono HS2.out.size)); replace hX5:=Aside0.mk hX5; clear hb5) | (go_at_call 35; refine (hPa.out _).mono ?_; rintro e w6 ⟨rfl,hb6⟩; have HB6:=Aside0.mk (HB5.out.trans (hb6.mono HB5.out.size)); clear j0 j1 j2 j3 hb6) | (go_at_call 33; refine (hFd.out _ HB6.out).mono ?_; rintro e w7 ⟨X7,d7,rfl,hd7,hC7,hb7⟩; have HB7:=Aside0.mk (HB6.out.trans (hb7.mono HB6.out.size)); have HB8 : Aside0 (Below w.heap.size w (w7.alloc (.cells #[.string y.f0,.int .i64 y.f1,.slice X7 y.f2.length d7,.string y.f3] 41))):=⟨below_alloc HB7.out _⟩; obtain ⟨m0,m1,m2,m3⟩:=cells4 (blk_new w7 (.cells #[.string y.f0,.int .i64 y.f1,.slice X7 y.f2.length d7,.string y.f3] 41)); clear hd7 hC7 hb7))
              go_roundg (l.length - (i + 1))
              case measure => omega
              case rel => exact ⟨i + 1,by first | rfl | (rw [hwi]),by omega,HB8,HNX.out hyes.out⟩
          ·have hg : decide ((x.f2.length : Int) > 0) = true:=decide_eq_true (by omega)
           have hg' : decide ((0 : Int) < (x.f2.length : Int)) = true:=decide_eq_true (by omega)
           have hg3:=Aside0.mk hz
           have hg4 : (0 < x.f2.length) = True:=eq_true (by omega)
           have hg5 : (x.f2 = []) = False:=eq_false (fun k => hz (by rw [k]; rfl))
           have hg6 : decide (0 < x.f2.length) = true:=decide_eq_true (by omega)
           have hz' : decide (x.f2.length = 0) = false:=decide_eq_false hz
           rw [hz'] at hthd2
           clear hz
           have hno : Aside0 (T = false):=HNO.out (by unfold stepR; rw [hthd2]; simp)
           clear hthd2
           go_wp2_with (go_at_call 70; refine (hLn.out _ hS2).mono ?_; rintro e w5 ⟨rfl,hb5⟩; have hX5:=blk_below hX2 hb5; obtain ⟨j0,j1,j2,j3⟩:=cells4 hX5; clear k0 k1 k2 k3; have HB5:=Aside0.mk (HS2.out.trans (hb5.mono HS2.out.size)); replace hX5:=Aside0.mk hX5; clear hb5)
           go_ret
           exact ⟨by rw [hno.out]; rfl,HB5.out⟩
     ·have hgt : decide ((i : Int) > 0) = true:=decide_eq_true (by omega)
      have hgt2 : decide ((0 : Int) < (i : Int)) = true:=decide_eq_true (by omega)
      have hgt3 : (0 < i) = True:=eq_true hpos
      have hgt4 : decide (0 < i) = true:=decide_eq_true hpos
      have hwm : IntKind.i64.wrap ((i : Int) - 1) = (i : Int) - 1:=wrap64_same (by omega) (by omega)
      have hm0 : (0 : Int) ≤ (i : Int) - 1:=by omega
      have hm1 : (i : Int) - 1 < (l.length : Int):=by omega
      obtain ⟨ad',X',d',he',rx',pc,-,-,-⟩:=ent_at (Kd.C_below HR.out (B1.out.trans (HW2B.out.mono B1.out.size))) (i - 1) (by omega) rfl
      injection he' with he'
      subst he'
      obtain ⟨yy,hy⟩ : ∃ y,l.getD (i - 1) z41 = y:=⟨_,rfl⟩
      rw [hy] at rx' pc
      have pc:=Aside0.mk pc
      have h1i : (1 : Int) ≤ (i : Int):=by omega
      obtain ⟨lt,hlt2⟩ : ∃ lt,ltP yy.f0 x.f0 = lt:=⟨_,rfl⟩
      have hbl : Op.bytesLess yy.f0.toList x.f0.toList = lt:=hlt2
      have HRJ : Aside0 ((decide (i = 0) || ltP (l.getD (i - 1) z41).f0 x.f0) = lt):=⟨by rw [decide_eq_false (show ¬ i = 0 by omega),hy,hlt2]; rfl⟩
      clear hy rx' hpos hlt2
      cases lt with
      | false =>
       have hno : Aside0 (T = false):=HNO.out (by unfold stepR; rw [HRJ.out]; simp)
       clear hLn
       refine wp_region_held_drew (S:=Below wr2.drew.heap.size wr2.drew) (by kernel_rfl) (Below.refl _ _) (fun hS => ?_)
       refine' tkE 0 22 hS ?_ ?_; rotate_left
       ·intro W' hSW; go_simp; (try with_reducible rfl)
       refine' tkE 1 23 hS ?_ ?_; rotate_left
       ·intro W' hSW; obtain ⟨k0,k1,k2,k3⟩:=cells4 (blk_below (blk_drew HXB.out) hSW); go_simp; (try with_reducible rfl)
       simp only [Act.put,List.setIfInBounds_toArray,List.set_cons_zero,List.set_cons_succ]
       refine wpAnyH_ready (rs:=[2]) (by kernel_rfl) (by simp) (AllReadyH.cons rfl (fun K hK => ?_) AllReadyH.nil)
       go_simp
       refine (hRt _).mono ?_
       rintro e W2 ⟨rfl,hb⟩
       have hS:=hS.trans (hb.mono hS.size)
       clear hb
       refine hK.out _ _ hS (fun _ => ?_)
       clear hK K
       refine' tkE 3 25 hS ?_ ?_; rotate_left
       ·intro W' hSW; go_simp; (try with_reducible rfl)
       refine' tkE 4 26 hS ?_ ?_; rotate_left
       ·intro W' hSW; go_simp; (try with_reducible rfl)
       refine' tkE 5 27 hS ?_ ?_; rotate_left
       ·intro W' hSW; go_simp; (try with_reducible rfl)
       refine' tkE 6 28 hS ?_ ?_; rotate_left
       ·intro W' hSW; go_simp; (try with_reducible rfl)
       refine' tkE 7 29 hS ?_ ?_; rotate_left
       ·intro W' hSW; go_simp; (try with_reducible rfl)
       refine' tkE 8 30 hS ?_ ?_; rotate_left
       ·intro W' hSW; go_simp; (try with_reducible rfl)
       refine' tkE 9 31 hS ?_ ?_; rotate_left
       ·intro W' hSW; go_simp; (try with_reducible rfl)
       refine' tkE 10 32 hS ?_ ?_; rotate_left
       ·intro W' hSW; go_simp; (try with_reducible rfl)
       refine' tkE 11 33 hS ?_ ?_; rotate_left
       ·intro W' hSW; go_simp; (try with_reducible rfl)
       refine' tkE 12 34 hS ?_ ?_; rotate_left
       ·intro W' hSW; go_simp; (try with_reducible rfl)
       refine' tkE 13 35 hS ?_ ?_; rotate_left
       ·intro W' hSW; have q0:=pw_cell_below hSW (pc.out); go_simp; (try with_reducible rfl)
       refine' tkE 14 36 hS ?_ ?_; rotate_left
       ·intro W' hSW; go_simp; (try with_reducible rfl)
       refine' tkE 15 37 hS ?_ ?_; rotate_left
       ·intro W' hSW; obtain ⟨k0,k1,k2,k3⟩:=cells4 (blk_below (blk_drew HXB.out) hSW); go_simp; (try with_reducible rfl)
       refine' tkE 16 38 hS ?_ ?_; rotate_left
       ·intro W' hSW; go_simp; (try with_reducible rfl)
       refine' tkE 17 39 hS ?_ ?_; rotate_left
       ·intro W' hSW; go_simp; (try with_reducible rfl)
       refine' tkE 18 40 hS ?_ ?_; rotate_left
       ·intro W' hSW; go_simp; (try with_reducible rfl)
       refine' tkE 19 41 hS ?_ ?_; rotate_left
       ·intro W' hSW; go_simp; (try with_reducible rfl)
       simp only [Act.put,List.setIfInBounds_toArray,List.set_cons_zero,List.set_cons_succ]
       refine tkUs (fun _ _ _ _ h => h) hS [(20,42),(21,43),(22,44)] 6 rfl (by kernel_rfl) ?_
       simp only [skipL,skipP,Act.put,List.setIfInBounds_toArray,List.set_cons_zero,List.set_cons_succ]
       refine' tkE 23 45 hS ?_ ?_; rotate_left
       ·intro W' hSW; go_simp; (try with_reducible rfl)
       refine' tkE 24 46 hS ?_ ?_; rotate_left
       ·intro W' hSW; go_simp; (try with_reducible rfl)
       simp only [Act.put,List.setIfInBounds_toArray,List.set_cons_zero,List.set_cons_succ]
       refine tkUs (fun _ _ _ _ h => h) hS [(25,47),(26,48),(27,49)] 1 rfl (by kernel_rfl) ?_
       simp only [skipL,skipP,Act.put,List.setIfInBounds_toArray,List.set_cons_zero,List.set_cons_succ]
       refine' tkE 28 50 hS ?_ ?_; rotate_left
       ·intro W' hSW; go_simp; (try with_reducible rfl)
       simp only [Act.put,List.setIfInBounds_toArray,List.set_cons_zero,List.set_cons_succ]
       refine wpAnyH_done (by kernel_rfl) ?_ _
       go_wp2
       go_ret
       exact ⟨by rw [hno.out]; rfl,HB2.out.drew.trans (hS.mono HB2.out.drew.size)⟩
      | true =>
       have HRI:=HRJ
       by_cases hka : x.f1 < 1
       ·have hka2 : decide (x.f1 < 1) = true:=decide_eq_true hka
        have hno : Aside0 (T = false):=HNO.out (by unfold stepR thingB; rw [decide_eq_false (show ¬ (1 : Int) ≤ x.f1 by omega)]; simp)
        clear hka hLn
        refine wp_region_held_drew (S:=Below wr2.drew.heap.size wr2.drew) (by kernel_rfl) (Below.refl _ _) (fun hS => ?_)
        refine' tkE 0 22 hS ?_ ?_; rotate_left
        ·intro W' hSW; go_simp; (try with_reducible rfl)
        refine' tkE 1 23 hS ?_ ?_; rotate_left
        ·intro W' hSW; obtain ⟨k0,k1,k2,k3⟩:=cells4 (blk_below (blk_drew HXB.out) hSW); go_simp; (try with_reducible rfl)
        simp only [Act.put,List.setIfInBounds_toArray,List.set_cons_zero,List.set_cons_succ]
        refine wpAnyH_ready (rs:=[2]) (by kernel_rfl) (by simp) (AllReadyH.cons rfl (fun K hK => ?_) AllReadyH.nil)
        go_simp
        refine (hRt _).mono ?_
        rintro e W2 ⟨rfl,hb⟩
        have hS:=hS.trans (hb.mono hS.size)
        clear hb
        refine hK.out _ _ hS (fun _ => ?_)
        clear hK K
        refine' tkE 3 25 hS ?_ ?_; rotate_left
        ·intro W' hSW; go_simp; (try with_reducible rfl)
        refine' tkE 4 26 hS ?_ ?_; rotate_left
        ·intro W' hSW; go_simp; (try with_reducible rfl)
        refine' tkE 5 27 hS ?_ ?_; rotate_left
        ·intro W' hSW; go_simp; (try with_reducible rfl)
        refine' tkE 6 28 hS ?_ ?_; rotate_left
        ·intro W' hSW; go_simp; (try with_reducible rfl)
        refine' tkE 7 29 hS ?_ ?_; rotate_left
        ·intro W' hSW; go_simp; (try with_reducible rfl)
        refine' tkE 8 30 hS ?_ ?_; rotate_left
        ·intro W' hSW; go_simp; (try with_reducible rfl)
        refine' tkE 9 31 hS ?_ ?_; rotate_left
        ·intro W' hSW; go_simp; (try with_reducible rfl)
        refine' tkE 10 32 hS ?_ ?_; rotate_left
        ·intro W' hSW; go_simp; (try with_reducible rfl)
        refine' tkE 11 33 hS ?_ ?_; rotate_left
        ·intro W' hSW; go_simp; (try with_reducible rfl)
        refine' tkE 12 34 hS ?_ ?_; rotate_left
        ·intro W' hSW; go_simp; (try with_reducible rfl)
        refine' tkE 13 35 hS ?_ ?_; rotate_left
        ·intro W' hSW; have q0:=pw_cell_below hSW (pc.out); go_simp; (try with_reducible rfl)
        refine' tkE 14 36 hS ?_ ?_; rotate_left
        ·intro W' hSW; go_simp; (try with_reducible rfl)
        refine' tkE 15 37 hS ?_ ?_; rotate_left
        ·intro W' hSW; obtain ⟨k0,k1,k2,k3⟩:=cells4 (blk_below (blk_drew HXB.out) hSW); go_simp; (try with_reducible rfl)
        refine' tkE 16 38 hS ?_ ?_; rotate_left
        ·intro W' hSW; go_simp; (try with_reducible rfl)
        refine' tkE 17 39 hS ?_ ?_; rotate_left
        ·intro W' hSW; go_simp; (try with_reducible rfl)
        refine' tkE 18 40 hS ?_ ?_; rotate_left
        ·intro W' hSW; go_simp; (try with_reducible rfl)
        refine' tkE 19 41 hS ?_ ?_; rotate_left
        ·intro W' hSW; go_simp; (try with_reducible rfl)
        refine' tkE 20 42 hS ?_ ?_; rotate_left
        ·intro W' hSW; go_simp; (try with_reducible rfl)
        refine' tkE 21 43 hS ?_ ?_; rotate_left
        ·intro W' hSW; obtain ⟨k0,k1,k2,k3⟩:=cells4 (blk_below (blk_drew HXB.out) hSW); go_simp; (try with_reducible rfl)
        refine' tkE 22 44 hS ?_ ?_; rotate_left
        ·intro W' hSW; go_simp; (try with_reducible rfl)
        refine' tkE 23 45 hS ?_ ?_; rotate_left
        ·intro W' hSW; go_simp; (try with_reducible rfl)
        refine' tkE 24 46 hS ?_ ?_; rotate_left
        ·intro W' hSW; go_simp; (try with_reducible rfl)
        simp only [Act.put,List.setIfInBounds_toArray,List.set_cons_zero,List.set_cons_succ]
        refine tkUs (fun _ _ _ _ h => h) hS [(25,47),(26,48),(27,49)] 1 rfl (by kernel_rfl) ?_
        simp only [skipL,skipP,Act.put,List.setIfInBounds_toArray,List.set_cons_zero,List.set_cons_succ]
        refine' tkE 28 50 hS ?_ ?_; rotate_left
        ·intro W' hSW; go_simp; (try with_reducible rfl)
        simp only [Act.put,List.setIfInBounds_toArray,List.set_cons_zero,List.set_cons_succ]
        refine wpAnyH_done (by kernel_rfl) ?_ _
        go_wp2
        go_ret
        exact ⟨by rw [hno.out]; rfl,HB2.out.drew.trans (hS.mono HB2.out.drew.size)⟩
       ·have hka2 : decide (x.f1 < 1) = false:=decide_eq_false hka
        replace hka : (1 : Int) ≤ x.f1:=by omega
        by_cases hkb : x.f1 > 3
        ·have hkb2 : decide (x.f1 > 3) = true:=decide_eq_true hkb
         have hkb3 : decide ((3 : Int) < x.f1) = true:=decide_eq_true hkb
         have hno : Aside0 (T = false):=HNO.out (by unfold stepR thingB; rw [decide_eq_false (show ¬ x.f1 ≤ 3 by omega)]; simp)
         clear hka hkb hLn
         refine wp_region_held_drew (S:=Below wr2.drew.heap.size wr2.drew) (by kernel_rfl) (Below.refl _ _) (fun hS => ?_)
         refine' tkE 0 22 hS ?_ ?_; rotate_left
         ·intro W' hSW; go_simp; (try with_reducible rfl)
         refine' tkE 1 23 hS ?_ ?_; rotate_left
         ·intro W' hSW; obtain ⟨k0,k1,k2,k3⟩:=cells4 (blk_below (blk_drew HXB.out) hSW); go_simp; (try with_reducible rfl)
         simp only [Act.put,List.setIfInBounds_toArray,List.set_cons_zero,List.set_cons_succ]
         refine wpAnyH_ready (rs:=[2]) (by kernel_rfl) (by simp) (AllReadyH.cons rfl (fun K hK => ?_) AllReadyH.nil)
         go_simp
         refine (hRt _).mono ?_
         rintro e W2 ⟨rfl,hb⟩
         have hS:=hS.trans (hb.mono hS.size)
         clear hb
         refine hK.out _ _ hS (fun _ => ?_)
         clear hK K
         refine' tkE 3 25 hS ?_ ?_; rotate_left
         ·intro W' hSW; go_simp; (try with_reducible rfl)
         refine' tkE 4 26 hS ?_ ?_; rotate_left
         ·intro W' hSW; go_simp; (try with_reducible rfl)
         refine' tkE 5 27 hS ?_ ?_; rotate_left
         ·intro W' hSW; go_simp; (try with_reducible rfl)
         refine' tkE 6 28 hS ?_ ?_; rotate_left
         ·intro W' hSW; go_simp; (try with_reducible rfl)
         refine' tkE 7 29 hS ?_ ?_; rotate_left
         ·intro W' hSW; go_simp; (try with_reducible rfl)
         refine' tkE 8 30 hS ?_ ?_; rotate_left
         ·intro W' hSW; go_simp; (try with_reducible rfl)
         refine' tkE 9 31 hS ?_ ?_; rotate_left
         ·intro W' hSW; go_simp; (try with_reducible rfl)
         refine' tkE 10 32 hS ?_ ?_; rotate_left
         ·intro W' hSW; go_simp; (try with_reducible rfl)
         refine' tkE 11 33 hS ?_ ?_; rotate_left
         ·intro W' hSW; go_simp; (try with_reducible rfl)
         refine' tkE 12 34 hS ?_ ?_; rotate_left
         ·intro W' hSW; go_simp; (try with_reducible rfl)
         refine' tkE 13 35 hS ?_ ?_; rotate_left
         ·intro W' hSW; have q0:=pw_cell_below hSW (pc.out); go_simp; (try with_reducible rfl)
         refine' tkE 14 36 hS ?_ ?_; rotate_left
         ·intro W' hSW; go_simp; (try with_reducible rfl)
         refine' tkE 15 37 hS ?_ ?_; rotate_left
         ·intro W' hSW; obtain ⟨k0,k1,k2,k3⟩:=cells4 (blk_below (blk_drew HXB.out) hSW); go_simp; (try with_reducible rfl)
         refine' tkE 16 38 hS ?_ ?_; rotate_left
         ·intro W' hSW; go_simp; (try with_reducible rfl)
         refine' tkE 17 39 hS ?_ ?_; rotate_left
         ·intro W' hSW; go_simp; (try with_reducible rfl)
         refine' tkE 18 40 hS ?_ ?_; rotate_left
         ·intro W' hSW; go_simp; (try with_reducible rfl)
         refine' tkE 19 41 hS ?_ ?_; rotate_left
         ·intro W' hSW; go_simp; (try with_reducible rfl)
         refine' tkE 20 42 hS ?_ ?_; rotate_left
         ·intro W' hSW; go_simp; (try with_reducible rfl)
         refine' tkE 21 43 hS ?_ ?_; rotate_left
         ·intro W' hSW; obtain ⟨k0,k1,k2,k3⟩:=cells4 (blk_below (blk_drew HXB.out) hSW); go_simp; (try with_reducible rfl)
         refine' tkE 22 44 hS ?_ ?_; rotate_left
         ·intro W' hSW; go_simp; (try with_reducible rfl)
         refine' tkE 23 45 hS ?_ ?_; rotate_left
         ·intro W' hSW; go_simp; (try with_reducible rfl)
         refine' tkE 24 46 hS ?_ ?_; rotate_left
         ·intro W' hSW; go_simp; (try with_reducible rfl)
         refine' tkE 25 47 hS ?_ ?_; rotate_left
         ·intro W' hSW; go_simp; (try with_reducible rfl)
         refine' tkE 26 48 hS ?_ ?_; rotate_left
         ·intro W' hSW; obtain ⟨k0,k1,k2,k3⟩:=cells4 (blk_below (blk_drew HXB.out) hSW); go_simp; (try with_reducible rfl)
         refine' tkE 27 49 hS ?_ ?_; rotate_left
         ·intro W' hSW; go_simp; (try with_reducible rfl)
         refine' tkE 28 50 hS ?_ ?_; rotate_left
         ·intro W' hSW; go_simp; (try with_reducible rfl)
         simp only [Act.put,List.setIfInBounds_toArray,List.set_cons_zero,List.set_cons_succ]
         refine wpAnyH_done (by kernel_rfl) ?_ _
         go_wp2
         go_ret
         exact ⟨by rw [hno.out]; rfl,HB2.out.drew.trans (hS.mono HB2.out.drew.size)⟩
        ·have hkb2 : decide (x.f1 > 3) = false:=decide_eq_false hkb
         have hkb3 : decide ((3 : Int) < x.f1) = false:=decide_eq_false hkb
         replace hkb : x.f1 ≤ 3:=by omega
         refine wp_region_held_drew (S:=Below wr2.drew.heap.size wr2.drew) (by kernel_rfl) (Below.refl _ _) (fun hS => ?_)
         refine' tkE 0 22 hS ?_ ?_; rotate_left
         ·intro W' hSW; go_simp; (try with_reducible rfl)
         refine' tkE 1 23 hS ?_ ?_; rotate_left
         ·intro W' hSW; obtain ⟨k0,k1,k2,k3⟩:=cells4 (blk_below (blk_drew HXB.out) hSW); go_simp; (try with_reducible rfl)
         simp only [Act.put,List.setIfInBounds_toArray,List.set_cons_zero,List.set_cons_succ]
         refine wpAnyH_ready (rs:=[2]) (by kernel_rfl) (by simp) (AllReadyH.cons rfl (fun K hK => ?_) AllReadyH.nil)
         go_simp
         refine (hRt _).mono ?_
         rintro e W2 ⟨rfl,hb⟩
         have hS:=hS.trans (hb.mono hS.size)
         clear hb
         refine hK.out _ _ hS (fun _ => ?_)
         clear hK K
         refine' tkE 3 25 hS ?_ ?_; rotate_left
         ·intro W' hSW; go_simp; (try with_reducible rfl)
         refine' tkE 4 26 hS ?_ ?_; rotate_left
         ·intro W' hSW; go_simp; (try with_reducible rfl)
         refine' tkE 5 27 hS ?_ ?_; rotate_left
         ·intro W' hSW; go_simp; (try with_reducible rfl)
         refine' tkE 6 28 hS ?_ ?_; rotate_left
         ·intro W' hSW; go_simp; (try with_reducible rfl)
         refine' tkE 7 29 hS ?_ ?_; rotate_left
         ·intro W' hSW; go_simp; (try with_reducible rfl)
         refine' tkE 8 30 hS ?_ ?_; rotate_left
         ·intro W' hSW; go_simp; (try with_reducible rfl)
         refine' tkE 9 31 hS ?_ ?_; rotate_left
         ·intro W' hSW; go_simp; (try with_reducible rfl)
         refine' tkE 10 32 hS ?_ ?_; rotate_left
         ·intro W' hSW; go_simp; (try with_reducible rfl)
         refine' tkE 11 33 hS ?_ ?_; rotate_left
         ·intro W' hSW; go_simp; (try with_reducible rfl)
         refine' tkE 12 34 hS ?_ ?_; rotate_left
         ·intro W' hSW; go_simp; (try with_reducible rfl)
         refine' tkE 13 35 hS ?_ ?_; rotate_left
         ·intro W' hSW; have q0:=pw_cell_below hSW (pc.out); go_simp; (try with_reducible rfl)
         refine' tkE 14 36 hS ?_ ?_; rotate_left
         ·intro W' hSW; go_simp; (try with_reducible rfl)
         refine' tkE 15 37 hS ?_ ?_; rotate_left
         ·intro W' hSW; obtain ⟨k0,k1,k2,k3⟩:=cells4 (blk_below (blk_drew HXB.out) hSW); go_simp; (try with_reducible rfl)
         refine' tkE 16 38 hS ?_ ?_; rotate_left
         ·intro W' hSW; go_simp; (try with_reducible rfl)
         refine' tkE 17 39 hS ?_ ?_; rotate_left
         ·intro W' hSW; go_simp; (try with_reducible rfl)
         refine' tkE 18 40 hS ?_ ?_; rotate_left
         ·intro W' hSW; go_simp; (try with_reducible rfl)
         refine' tkE 19 41 hS ?_ ?_; rotate_left
         ·intro W' hSW; go_simp; (try with_reducible rfl)
         refine' tkE 20 42 hS ?_ ?_; rotate_left
         ·intro W' hSW; go_simp; (try with_reducible rfl)
         refine' tkE 21 43 hS ?_ ?_; rotate_left
         ·intro W' hSW; obtain ⟨k0,k1,k2,k3⟩:=cells4 (blk_below (blk_drew HXB.out) hSW); go_simp; (try with_reducible rfl)
         refine' tkE 22 44 hS ?_ ?_; rotate_left
         ·intro W' hSW; go_simp; (try with_reducible rfl)
         refine' tkE 23 45 hS ?_ ?_; rotate_left
         ·intro W' hSW; go_simp; (try with_reducible rfl)
         refine' tkE 24 46 hS ?_ ?_; rotate_left
         ·intro W' hSW; go_simp; (try with_reducible rfl)
         refine' tkE 25 47 hS ?_ ?_; rotate_left
         ·intro W' hSW; go_simp; (try with_reducible rfl)
         refine' tkE 26 48 hS ?_ ?_; rotate_left
         ·intro W' hSW; obtain ⟨k0,k1,k2,k3⟩:=cells4 (blk_below (blk_drew HXB.out) hSW); go_simp; (try with_reducible rfl)
         refine' tkE 27 49 hS ?_ ?_; rotate_left
         ·intro W' hSW; go_simp; (try with_reducible rfl)
         refine' tkE 28 50 hS ?_ ?_; rotate_left
         ·intro W' hSW; go_simp; (try with_reducible rfl)
         simp only [Act.put,List.setIfInBounds_toArray,List.set_cons_zero,List.set_cons_succ]
         refine wpAnyH_done (by kernel_rfl) ?_ _
         have HS2:=Aside0.mk (HB2.out.drew.trans (hS.mono HB2.out.drew.size))
         have hX2:=blk_below (blk_drew HXB.out) hS
         obtain ⟨k0,k1,k2,k3⟩:=cells4 hX2
         have hS2 : Below wr2.heap.size wr2 W2:=(below_drew (Below.refl _ _)).trans hS
         clear hS hRt
         cases hl1 : linesB x.f2 with
         | false =>
          rw [hl1] at hLn
          replace hLn:=Aside0.mk hLn
          have hno : Aside0 (T = false):=HNO.out (by unfold stepR thingB; rw [hl1]; simp)
          go_wp2_with (go_at_call 70; refine (hLn.out _ hS2).mono ?_; rintro e w5 ⟨rfl,hb5⟩; have hX5:=blk_below hX2 hb5; obtain ⟨j0,j1,j2,j3⟩:=cells4 hX5; clear k0 k1 k2 k3; have HB5:=Aside0.mk (HS2.out.trans (hb5.mono HS2.out.size)); replace hX5:=Aside0.mk hX5; clear hb5)
          go_ret
          exact ⟨by rw [hno.out]; rfl,HB5.out⟩
         | true =>
          rw [hl1] at hLn
          replace hLn:=Aside0.mk hLn
          have hkc : x.f1 = 1 ∨ x.f1 = 2 ∨ x.f1 = 3:=by omega
          have hthd : thingB x = ((decide (x.f1 = 2) || decide (x.f2.length = 0)) && (decide (x.f1 = 3) || decide (x.f3.toList = []))):=by unfold thingB; rw [HC1.out,hl1,decide_eq_true hka,decide_eq_true hkb]; simp
          have HL1:=Aside0.mk hl1
          have hnn : (0 : Int) ≤ (x.f2.length : Int):=by omega
          clear hl1 hka hkb hka2 hkb2
          rcases hkc with hk | hk | hk
          ·have n2 : (x.f1 != 2) = true:=by rw [hk]; rfl
           have n3 : (x.f1 != 3) = true:=by rw [hk]; rfl
           have hthd2:=hthd
           rw [hk] at hthd2
           replace hk:=Aside0.mk hk
           clear hthd
           by_cases hz : x.f2.length = 0
           ·have hg : decide ((x.f2.length : Int) > 0) = false:=decide_eq_false (by omega)
            have hg' : decide ((0 : Int) < (x.f2.length : Int)) = false:=decide_eq_false (by omega)
            have hg3:=Aside0.mk hz
            have hg4 : (0 < x.f2.length) = False:=eq_false (by omega)
            have hg5 : (x.f2 = []) = True:=eq_true (List.eq_nil_of_length_eq_zero hz)
            have hg6 : decide (0 < x.f2.length) = false:=decide_eq_false (by omega)
            have hz' : decide (x.f2.length = 0) = true:=decide_eq_true hz
            rw [hz'] at hthd2
            clear hz hz'
            cases hd : (x.f3.toList == ([] : List UInt8)) with
            | false =>
             have hd2 : (x.f3.toList != ([] : List UInt8)) = true:=by rw [bne,hd]; rfl
             have hd3 : x.f3.toList.isEmpty = false:=by cases h : x.f3.toList with | nil => rw [h] at hd; cases hd | cons a b => rfl
             have hno : Aside0 (T = false):=HNO.out (by have e : decide (x.f3.toList = []) = false:=(by rw [decide_eq_false_iff_not]; intro k; rw [k] at hd; cases hd); unfold stepR; rw [hthd2,e]; simp)
             replace hd:=Aside0.mk hd
             clear hthd2
             go_wp2_with (go_at_call 70; refine (hLn.out _ hS2).mono ?_; rintro e w5 ⟨rfl,hb5⟩; have hX5:=blk_below hX2 hb5; obtain ⟨j0,j1,j2,j3⟩:=cells4 hX5; clear k0 k1 k2 k3; have HB5:=Aside0.mk (HS2.out.trans (hb5.mono HS2.out.size)); replace hX5:=Aside0.mk hX5; clear hb5)
             go_ret
             exact ⟨by rw [hno.out]; rfl,HB5.out⟩
            | true =>
             have hd2 : (x.f3.toList != ([] : List UInt8)) = false:=by rw [bne,hd]; rfl
             have hd3 : x.f3.toList.isEmpty = true:=by cases h : x.f3.toList with | nil => rfl | cons a b => rw [h] at hd; cases hd
             have hth : thingB x = true:=by have e : decide (x.f3.toList = []) = true:=decide_eq_true (by simpa using hd); rw [hthd2,e]; simp
             replace hd:=Aside0.mk hd
             clear hthd2
             cases hup : parentV x.f0 with
             | none =>
              rw [hup] at hPa
              have hyes : Aside0 (stepR l i x = true):=⟨by unfold stepR parR; rw [HTH.out hth,HRI.out,hup]; rfl⟩
              replace hPa:=Aside0.mk hPa
              replace hup:=Aside0.mk hup
              clear hth
              go_wp2_with (first | (go_at_call 70; refine (hLn.out _ hS2).mono ?_; rintro e w5 ⟨rfl,hb5⟩; have hX5:=blk_below hX2 hb5; obtain ⟨j0,j1,j2,j3⟩:=cells4 hX5; clear k0 k1 k2 k3; have HB5:=Aside0.mk (HS2.out.trans (hb5.mono HS2.out.size)); replace hX5:=Aside0.mk hX5; clear hb5) | (go_at_call 35; refine (hPa.out _).mono ?_; rintro e w6 ⟨rfl,hb6⟩; have HB6:=Aside0.mk (HB5.out.trans (hb6.mono HB5.out.size)); clear j0 j1 j2 j3 hb6))
              go_roundg (l.length - (i + 1))
              case measure => omega
              case rel => exact ⟨i + 1,by first | rfl | (rw [hwi]),by omega,HB6,HNX.out hyes.out⟩
             | some up =>
              rw [hup] at hPa
              have hFd:=fun U h => find_at l (some ad) c up w HR.out HC.out HN.out U h
              obtain ⟨y,hy⟩ : ∃ y,thingAt l up = y:=⟨_,rfl⟩
              obtain ⟨fd,hfd⟩ : ∃ fd,(findV l up).isSome = fd:=⟨_,rfl⟩
              rw [hy,hfd] at hFd
              have hst : Aside0 (stepR l i x = (fd && (y.f1 == 1))):=⟨by unfold stepR parR; rw [HTH.out hth,HRI.out,hup]; show (true && true && ((findV l up).isSome && (thingAt l up).f1 == 1)) = _; rw [hy,hfd]; rfl⟩
              replace hPa:=Aside0.mk hPa
              replace hFd:=Aside0.mk hFd
              replace hup:=Aside0.mk hup
              clear hy hfd hth
              cases fd with
              | false =>
               have hno : Aside0 (T = false):=HNO.out (by rw [hst.out]; rfl)
               go_wp2_with (first | (go_at_call 70; refine (hLn.out _ hS2).mono ?_; rintro e w5 ⟨rfl,hb5⟩; have hX5:=blk_below hX2 hb5; obtain ⟨j0,j1,j2,j3⟩:=cells4 hX5; clear k0 k1 k2 k3; have HB5:=Aside0.mk (HS2.out.trans (hb5.mono HS2.out.size)); replace hX5:=Aside0.mk hX5; clear hb5) | (go_at_call 35; refine (hPa.out _).mono ?_; rintro e w6 ⟨rfl,hb6⟩; have HB6:=Aside0.mk (HB5.out.trans (hb6.mono HB5.out.size)); clear j0 j1 j2 j3 hb6) | (go_at_call 33; refine (hFd.out _ HB6.out).mono ?_; rintro e w7 ⟨X7,d7,rfl,hd7,hC7,hb7⟩; have HB7:=Aside0.mk (HB6.out.trans (hb7.mono HB6.out.size)); have HB8 : Aside0 (Below w.heap.size w (w7.alloc (.cells #[.string y.f0,.int .i64 y.f1,.slice X7 y.f2.length d7,.string y.f3] 41))):=⟨below_alloc HB7.out _⟩; obtain ⟨m0,m1,m2,m3⟩:=cells4 (blk_new w7 (.cells #[.string y.f0,.int .i64 y.f1,.slice X7 y.f2.length d7,.string y.f3] 41)); clear hd7 hC7 hb7))
               go_ret
               exact ⟨by rw [hno.out]; rfl,HB8.out⟩
              | true =>
               cases hk1 : (y.f1 == 1) with
               | false =>
                have hk2 : (y.f1 != 1) = true:=by rw [bne,hk1]; rfl
                have hno : Aside0 (T = false):=HNO.out (by rw [hst.out,hk1]; rfl)
                replace hk1:=Aside0.mk hk1
                go_wp2_with (first | (go_at_call 70; refine (hLn.out _ hS2).mono ?_; rintro e w5 ⟨rfl,hb5⟩; have hX5:=blk_below hX2 hb5; obtain ⟨j0,j1,j2,j3⟩:=cells4 hX5; clear k0 k1 k2 k3; have HB5:=Aside0.mk (HS2.out.trans (hb5.mono HS2.out.size)); replace hX5:=Aside0.mk hX5; clear hb5) | (go_at_call 35; refine (hPa.out _).mono ?_; rintro e w6 ⟨rfl,hb6⟩; have HB6:=Aside0.mk (HB5.out.trans (hb6.mono HB5.out.size)); clear j0 j1 j2 j3 hb6) | (go_at_call 33; refine (hFd.out _ HB6.out).mono ?_; rintro e w7 ⟨X7,d7,rfl,hd7,hC7,hb7⟩; have HB7:=Aside0.mk (HB6.out.trans (hb7.mono HB6.out.size)); have HB8 : Aside0 (Below w.heap.size w (w7.alloc (.cells #[.string y.f0,.int .i64 y.f1,.slice X7 y.f2.length d7,.string y.f3] 41))):=⟨below_alloc HB7.out _⟩; obtain ⟨m0,m1,m2,m3⟩:=cells4 (blk_new w7 (.cells #[.string y.f0,.int .i64 y.f1,.slice X7 y.f2.length d7,.string y.f3] 41)); clear hd7 hC7 hb7))
                go_ret
                exact ⟨by rw [hno.out]; rfl,HB8.out⟩
               | true =>
                have hk2 : (y.f1 != 1) = false:=by rw [bne,hk1]; rfl
                have hyes : Aside0 (stepR l i x = true):=⟨by rw [hst.out,hk1]; rfl⟩
                replace hk1:=Aside0.mk hk1
                go_wp2_with (first | (go_at_call 70; refine (hLn.out _ hS2).mono ?_; rintro e w5 ⟨rfl,hb5⟩; have hX5:=blk_below hX2 hb5; obtain ⟨j0,j1,j2,j3⟩:=cells4 hX5; clear k0 k1 k2 k3; have HB5:=Aside0.mk (HS2.out.trans (hb5.mono HS2.out.size)); replace hX5:=Aside0.mk hX5; clear hb5) | (go_at_call 35; refine (hPa.out _).mono ?_; rintro e w6 ⟨rfl,hb6⟩; have HB6:=Aside0.mk (HB5.out.trans (hb6.mono HB5.out.size)); clear j0 j1 j2 j3 hb6) | (go_at_call 33; refine (hFd.out _ HB6.out).mono ?_; rintro e w7 ⟨X7,d7,rfl,hd7,hC7,hb7⟩; have HB7:=Aside0.mk (HB6.out.trans (hb7.mono HB6.out.size)); have HB8 : Aside0 (Below w.heap.size w (w7.alloc (.cells #[.string y.f0,.int .i64 y.f1,.slice X7 y.f2.length d7,.string y.f3] 41))):=⟨below_alloc HB7.out _⟩; obtain ⟨m0,m1,m2,m3⟩:=cells4 (blk_new w7 (.cells #[.string y.f0,.int .i64 y.f1,.slice X7 y.f2.length d7,.string y.f3] 41)); clear hd7 hC7 hb7))
                go_roundg (l.length - (i + 1))
                case measure => omega
                case rel => exact ⟨i + 1,by first | rfl | (rw [hwi]),by omega,HB8,HNX.out hyes.out⟩
           ·have hg : decide ((x.f2.length : Int) > 0) = true:=decide_eq_true (by omega)
            have hg' : decide ((0 : Int) < (x.f2.length : Int)) = true:=decide_eq_true (by omega)
            have hg3:=Aside0.mk hz
            have hg4 : (0 < x.f2.length) = True:=eq_true (by omega)
            have hg5 : (x.f2 = []) = False:=eq_false (fun k => hz (by rw [k]; rfl))
            have hg6 : decide (0 < x.f2.length) = true:=decide_eq_true (by omega)
            have hz' : decide (x.f2.length = 0) = false:=decide_eq_false hz
            rw [hz'] at hthd2
            clear hz
            have hno : Aside0 (T = false):=HNO.out (by unfold stepR; rw [hthd2]; simp)
            clear hthd2
            go_wp2_with (go_at_call 70; refine (hLn.out _ hS2).mono ?_; rintro e w5 ⟨rfl,hb5⟩; have hX5:=blk_below hX2 hb5; obtain ⟨j0,j1,j2,j3⟩:=cells4 hX5; clear k0 k1 k2 k3; have HB5:=Aside0.mk (HS2.out.trans (hb5.mono HS2.out.size)); replace hX5:=Aside0.mk hX5; clear hb5)
            go_ret
            exact ⟨by rw [hno.out]; rfl,HB5.out⟩
          ·have n2 : (x.f1 != 2) = false:=by rw [hk]; rfl
           have n3 : (x.f1 != 3) = true:=by rw [hk]; rfl
           have hthd2:=hthd
           rw [hk] at hthd2
           replace hk:=Aside0.mk hk
           clear hthd
           cases hd : (x.f3.toList == ([] : List UInt8)) with
           | false =>
            have hd2 : (x.f3.toList != ([] : List UInt8)) = true:=by rw [bne,hd]; rfl
            have hd3 : x.f3.toList.isEmpty = false:=by cases h : x.f3.toList with | nil => rw [h] at hd; cases hd | cons a b => rfl
            have hno : Aside0 (T = false):=HNO.out (by have e : decide (x.f3.toList = []) = false:=(by rw [decide_eq_false_iff_not]; intro k; rw [k] at hd; cases hd); unfold stepR; rw [hthd2,e]; simp)
            replace hd:=Aside0.mk hd
            clear hthd2
            go_wp2_with (go_at_call 70; refine (hLn.out _ hS2).mono ?_; rintro e w5 ⟨rfl,hb5⟩; have hX5:=blk_below hX2 hb5; obtain ⟨j0,j1,j2,j3⟩:=cells4 hX5; clear k0 k1 k2 k3; have HB5:=Aside0.mk (HS2.out.trans (hb5.mono HS2.out.size)); replace hX5:=Aside0.mk hX5; clear hb5)
            go_ret
            exact ⟨by rw [hno.out]; rfl,HB5.out⟩
           | true =>
            have hd2 : (x.f3.toList != ([] : List UInt8)) = false:=by rw [bne,hd]; rfl
            have hd3 : x.f3.toList.isEmpty = true:=by cases h : x.f3.toList with | nil => rfl | cons a b => rw [h] at hd; cases hd
            have hth : thingB x = true:=by have e : decide (x.f3.toList = []) = true:=decide_eq_true (by simpa using hd); rw [hthd2,e]; simp
            replace hd:=Aside0.mk hd
            clear hthd2
            cases hup : parentV x.f0 with
            | none =>
             rw [hup] at hPa
             have hyes : Aside0 (stepR l i x = true):=⟨by unfold stepR parR; rw [HTH.out hth,HRI.out,hup]; rfl⟩
             replace hPa:=Aside0.mk hPa
             replace hup:=Aside0.mk hup
             clear hth
             go_wp2_with (first | (go_at_call 70; refine (hLn.out _ hS2).mono ?_; rintro e w5 ⟨rfl,hb5⟩; have hX5:=blk_below hX2 hb5; obtain ⟨j0,j1,j2,j3⟩:=cells4 hX5; clear k0 k1 k2 k3; have HB5:=Aside0.mk (HS2.out.trans (hb5.mono HS2.out.size)); replace hX5:=Aside0.mk hX5; clear hb5) | (go_at_call 35; refine (hPa.out _).mono ?_; rintro e w6 ⟨rfl,hb6⟩; have HB6:=Aside0.mk (HB5.out.trans (hb6.mono HB5.out.size)); clear j0 j1 j2 j3 hb6))
             go_roundg (l.length - (i + 1))
             case measure => omega
             case rel => exact ⟨i + 1,by first | rfl | (rw [hwi]),by omega,HB6,HNX.out hyes.out⟩
            | some up =>
             rw [hup] at hPa
             have hFd:=fun U h => find_at l (some ad) c up w HR.out HC.out HN.out U h
             obtain ⟨y,hy⟩ : ∃ y,thingAt l up = y:=⟨_,rfl⟩
             obtain ⟨fd,hfd⟩ : ∃ fd,(findV l up).isSome = fd:=⟨_,rfl⟩
             rw [hy,hfd] at hFd
             have hst : Aside0 (stepR l i x = (fd && (y.f1 == 1))):=⟨by unfold stepR parR; rw [HTH.out hth,HRI.out,hup]; show (true && true && ((findV l up).isSome && (thingAt l up).f1 == 1)) = _; rw [hy,hfd]; rfl⟩
             replace hPa:=Aside0.mk hPa
             replace hFd:=Aside0.mk hFd
             replace hup:=Aside0.mk hup
             clear hy hfd hth
             cases fd with
             | false =>
              have hno : Aside0 (T = false):=HNO.out (by rw [hst.out]; rfl)
              go_wp2_with (first | (go_at_call 70; refine (hLn.out _ hS2).mono ?_; rintro e w5 ⟨rfl,hb5⟩; have hX5:=blk_below hX2 hb5; obtain ⟨j0,j1,j2,j3⟩:=cells4 hX5; clear k0 k1 k2 k3; have HB5:=Aside0.mk (HS2.out.trans (hb5.mono HS2.out.size)); replace hX5:=Aside0.mk hX5; clear hb5) | (go_at_call 35; refine (hPa.out _).mono ?_; rintro e w6 ⟨rfl,hb6⟩; have HB6:=Aside0.mk (HB5.out.trans (hb6.mono HB5.out.size)); clear j0 j1 j2 j3 hb6) | (go_at_call 33; refine (hFd.out _ HB6.out).mono ?_; rintro e w7 ⟨X7,d7,rfl,hd7,hC7,hb7⟩; have HB7:=Aside0.mk (HB6.out.trans (hb7.mono HB6.out.size)); have HB8 : Aside0 (Below w.heap.size w (w7.alloc (.cells #[.string y.f0,.int .i64 y.f1,.slice X7 y.f2.length d7,.string y.f3] 41))):=⟨below_alloc HB7.out _⟩; obtain ⟨m0,m1,m2,m3⟩:=cells4 (blk_new w7 (.cells #[.string y.f0,.int .i64 y.f1,.slice X7 y.f2.length d7,.string y.f3] 41)); clear hd7 hC7 hb7))
              go_ret
              exact ⟨by rw [hno.out]; rfl,HB8.out⟩
             | true =>
              cases hk1 : (y.f1 == 1) with
              | false =>
               have hk2 : (y.f1 != 1) = true:=by rw [bne,hk1]; rfl
               have hno : Aside0 (T = false):=HNO.out (by rw [hst.out,hk1]; rfl)
               replace hk1:=Aside0.mk hk1
               go_wp2_with (first | (go_at_call 70; refine (hLn.out _ hS2).mono ?_; rintro e w5 ⟨rfl,hb5⟩; have hX5:=blk_below hX2 hb5; obtain ⟨j0,j1,j2,j3⟩:=cells4 hX5; clear k0 k1 k2 k3; have HB5:=Aside0.mk (HS2.out.trans (hb5.mono HS2.out.size)); replace hX5:=Aside0.mk hX5; clear hb5) | (go_at_call 35; refine (hPa.out _).mono ?_; rintro e w6 ⟨rfl,hb6⟩; have HB6:=Aside0.mk (HB5.out.trans (hb6.mono HB5.out.size)); clear j0 j1 j2 j3 hb6) | (go_at_call 33; refine (hFd.out _ HB6.out).mono ?_; rintro e w7 ⟨X7,d7,rfl,hd7,hC7,hb7⟩; have HB7:=Aside0.mk (HB6.out.trans (hb7.mono HB6.out.size)); have HB8 : Aside0 (Below w.heap.size w (w7.alloc (.cells #[.string y.f0,.int .i64 y.f1,.slice X7 y.f2.length d7,.string y.f3] 41))):=⟨below_alloc HB7.out _⟩; obtain ⟨m0,m1,m2,m3⟩:=cells4 (blk_new w7 (.cells #[.string y.f0,.int .i64 y.f1,.slice X7 y.f2.length d7,.string y.f3] 41)); clear hd7 hC7 hb7))
               go_ret
               exact ⟨by rw [hno.out]; rfl,HB8.out⟩
              | true =>
               have hk2 : (y.f1 != 1) = false:=by rw [bne,hk1]; rfl
               have hyes : Aside0 (stepR l i x = true):=⟨by rw [hst.out,hk1]; rfl⟩
               replace hk1:=Aside0.mk hk1
               go_wp2_with (first | (go_at_call 70; refine (hLn.out _ hS2).mono ?_; rintro e w5 ⟨rfl,hb5⟩; have hX5:=blk_below hX2 hb5; obtain ⟨j0,j1,j2,j3⟩:=cells4 hX5; clear k0 k1 k2 k3; have HB5:=Aside0.mk (HS2.out.trans (hb5.mono HS2.out.size)); replace hX5:=Aside0.mk hX5; clear hb5) | (go_at_call 35; refine (hPa.out _).mono ?_; rintro e w6 ⟨rfl,hb6⟩; have HB6:=Aside0.mk (HB5.out.trans (hb6.mono HB5.out.size)); clear j0 j1 j2 j3 hb6) | (go_at_call 33; refine (hFd.out _ HB6.out).mono ?_; rintro e w7 ⟨X7,d7,rfl,hd7,hC7,hb7⟩; have HB7:=Aside0.mk (HB6.out.trans (hb7.mono HB6.out.size)); have HB8 : Aside0 (Below w.heap.size w (w7.alloc (.cells #[.string y.f0,.int .i64 y.f1,.slice X7 y.f2.length d7,.string y.f3] 41))):=⟨below_alloc HB7.out _⟩; obtain ⟨m0,m1,m2,m3⟩:=cells4 (blk_new w7 (.cells #[.string y.f0,.int .i64 y.f1,.slice X7 y.f2.length d7,.string y.f3] 41)); clear hd7 hC7 hb7))
               go_roundg (l.length - (i + 1))
               case measure => omega
               case rel => exact ⟨i + 1,by first | rfl | (rw [hwi]),by omega,HB8,HNX.out hyes.out⟩
          ·have n2 : (x.f1 != 2) = true:=by rw [hk]; rfl
           have n3 : (x.f1 != 3) = false:=by rw [hk]; rfl
           have hthd2:=hthd
           rw [hk] at hthd2
           replace hk:=Aside0.mk hk
           clear hthd
           by_cases hz : x.f2.length = 0
           ·have hg : decide ((x.f2.length : Int) > 0) = false:=decide_eq_false (by omega)
            have hg' : decide ((0 : Int) < (x.f2.length : Int)) = false:=decide_eq_false (by omega)
            have hg3:=Aside0.mk hz
            have hg4 : (0 < x.f2.length) = False:=eq_false (by omega)
            have hg5 : (x.f2 = []) = True:=eq_true (List.eq_nil_of_length_eq_zero hz)
            have hg6 : decide (0 < x.f2.length) = false:=decide_eq_false (by omega)
            have hz' : decide (x.f2.length = 0) = true:=decide_eq_true hz
            rw [hz'] at hthd2
            clear hz hz'
            have hth : thingB x = true:=by rw [hthd2]; simp
            clear hthd2
            cases hup : parentV x.f0 with
            | none =>
             rw [hup] at hPa
             have hyes : Aside0 (stepR l i x = true):=⟨by unfold stepR parR; rw [HTH.out hth,HRI.out,hup]; rfl⟩
             replace hPa:=Aside0.mk hPa
             replace hup:=Aside0.mk hup
             clear hth
             go_wp2_with (first | (go_at_call 70; refine (hLn.out _ hS2).mono ?_; rintro e w5 ⟨rfl,hb5⟩; have hX5:=blk_below hX2 hb5; obtain ⟨j0,j1,j2,j3⟩:=cells4 hX5; clear k0 k1 k2 k3; have HB5:=Aside0.mk (HS2.out.trans (hb5.mono HS2.out.size)); replace hX5:=Aside0.mk hX5; clear hb5) | (go_at_call 35; refine (hPa.out _).mono ?_; rintro e w6 ⟨rfl,hb6⟩; have HB6:=Aside0.mk (HB5.out.trans (hb6.mono HB5.out.size)); clear j0 j1 j2 j3 hb6))
             go_roundg (l.length - (i + 1))
             case measure => omega
             case rel => exact ⟨i + 1,by first | rfl | (rw [hwi]),by omega,HB6,HNX.out hyes.out⟩
            | some up =>
             rw [hup] at hPa
             have hFd:=fun U h => find_at l (some ad) c up w HR.out HC.out HN.out U h
             obtain ⟨y,hy⟩ : ∃ y,thingAt l up = y:=⟨_,rfl⟩
             obtain ⟨fd,hfd⟩ : ∃ fd,(findV l up).isSome = fd:=⟨_,rfl⟩
             rw [hy,hfd] at hFd
             have hst : Aside0 (stepR l i x = (fd && (y.f1 == 1))):=⟨by unfold stepR parR; rw [HTH.out hth,HRI.out,hup]; show (true && true && ((findV l up).isSome && (thingAt l up).f1 == 1)) = _; rw [hy,hfd]; rfl⟩
             replace hPa:=Aside0.mk hPa
             replace hFd:=Aside0.mk hFd
             replace hup:=Aside0.mk hup
             clear hy hfd hth
             cases fd with
             | false =>
              have hno : Aside0 (T = false):=HNO.out (by rw [hst.out]; rfl)
              go_wp2_with (first | (go_at_call 70; refine (hLn.out _ hS2).mono ?_; rintro e w5 ⟨rfl,hb5⟩; have hX5:=blk_below hX2 hb5; obtain ⟨j0,j1,j2,j3⟩:=cells4 hX5; clear k0 k1 k2 k3; have HB5:=Aside0.mk (HS2.out.trans (hb5.mono HS2.out.size)); replace hX5:=Aside0.mk hX5; clear hb5) | (go_at_call 35; refine (hPa.out _).mono ?_; rintro e w6 ⟨rfl,hb6⟩; have HB6:=Aside0.mk (HB5.out.trans (hb6.mono HB5.out.size)); clear j0 j1 j2 j3 hb6) | (go_at_call 33; refine (hFd.out _ HB6.out).mono ?_; rintro e w7 ⟨X7,d7,rfl,hd7,hC7,hb7⟩; have HB7:=Aside0.mk (HB6.out.trans (hb7.mono HB6.out.size)); have HB8 : Aside0 (Below w.heap.size w (w7.alloc (.cells #[.string y.f0,.int .i64 y.f1,.slice X7 y.f2.length d7,.string y.f3] 41))):=⟨below_alloc HB7.out _⟩; obtain ⟨m0,m1,m2,m3⟩:=cells4 (blk_new w7 (.cells #[.string y.f0,.int .i64 y.f1,.slice X7 y.f2.length d7,.string y.f3] 41)); clear hd7 hC7 hb7))
              go_ret
              exact ⟨by rw [hno.out]; rfl,HB8.out⟩
             | true =>
              cases hk1 : (y.f1 == 1) with
              | false =>
               have hk2 : (y.f1 != 1) = true:=by rw [bne,hk1]; rfl
               have hno : Aside0 (T = false):=HNO.out (by rw [hst.out,hk1]; rfl)
               replace hk1:=Aside0.mk hk1
               go_wp2_with (first | (go_at_call 70; refine (hLn.out _ hS2).mono ?_; rintro e w5 ⟨rfl,hb5⟩; have hX5:=blk_below hX2 hb5; obtain ⟨j0,j1,j2,j3⟩:=cells4 hX5; clear k0 k1 k2 k3; have HB5:=Aside0.mk (HS2.out.trans (hb5.mono HS2.out.size)); replace hX5:=Aside0.mk hX5; clear hb5) | (go_at_call 35; refine (hPa.out _).mono ?_; rintro e w6 ⟨rfl,hb6⟩; have HB6:=Aside0.mk (HB5.out.trans (hb6.mono HB5.out.size)); clear j0 j1 j2 j3 hb6) | (go_at_call 33; refine (hFd.out _ HB6.out).mono ?_; rintro e w7 ⟨X7,d7,rfl,hd7,hC7,hb7⟩; have HB7:=Aside0.mk (HB6.out.trans (hb7.mono HB6.out.size)); have HB8 : Aside0 (Below w.heap.size w (w7.alloc (.cells #[.string y.f0,.int .i64 y.f1,.slice X7 y.f2.length d7,.string y.f3] 41))):=⟨below_alloc HB7.out _⟩; obtain ⟨m0,m1,m2,m3⟩:=cells4 (blk_new w7 (.cells #[.string y.f0,.int .i64 y.f1,.slice X7 y.f2.length d7,.string y.f3] 41)); clear hd7 hC7 hb7))
               go_ret
               exact ⟨by rw [hno.out]; rfl,HB8.out⟩
              | true =>
               have hk2 : (y.f1 != 1) = false:=by rw [bne,hk1]; rfl
               have hyes : Aside0 (stepR l i x = true):=⟨by rw [hst.out,hk1]; rfl⟩
               replace hk1:=Aside0.mk hk1
               go_wp2_with (first | (go_at_call 70; refine (hLn.out _ hS2).mono ?_; rintro e w5 ⟨rfl,hb5⟩; have hX5:=blk_below hX2 hb5; obtain ⟨j0,j1,j2,j3⟩:=cells4 hX5; clear k0 k1 k2 k3; have HB5:=Aside0.mk (HS2.out.trans (hb5.mono HS2.out.size)); replace hX5:=Aside0.mk hX5; clear hb5) | (go_at_call 35; refine (hPa.out _).mono ?_; rintro e w6 ⟨rfl,hb6⟩; have HB6:=Aside0.mk (HB5.out.trans (hb6.mono HB5.out.size)); clear j0 j1 j2 j3 hb6) | (go_at_call 33; refine (hFd.out _ HB6.out).mono ?_; rintro e w7 ⟨X7,d7,rfl,hd7,hC7,hb7⟩; have HB7:=Aside0.mk (HB6.out.trans (hb7.mono HB6.out.size)); have HB8 : Aside0 (Below w.heap.size w (w7.alloc (.cells #[.string y.f0,.int .i64 y.f1,.slice X7 y.f2.length d7,.string y.f3] 41))):=⟨below_alloc HB7.out _⟩; obtain ⟨m0,m1,m2,m3⟩:=cells4 (blk_new w7 (.cells #[.string y.f0,.int .i64 y.f1,.slice X7 y.f2.length d7,.string y.f3] 41)); clear hd7 hC7 hb7))
               go_roundg (l.length - (i + 1))
               case measure => omega
               case rel => exact ⟨i + 1,by first | rfl | (rw [hwi]),by omega,HB8,HNX.out hyes.out⟩
           ·have hg : decide ((x.f2.length : Int) > 0) = true:=decide_eq_true (by omega)
            have hg' : decide ((0 : Int) < (x.f2.length : Int)) = true:=decide_eq_true (by omega)
            have hg3:=Aside0.mk hz
            have hg4 : (0 < x.f2.length) = True:=eq_true (by omega)
            have hg5 : (x.f2 = []) = False:=eq_false (fun k => hz (by rw [k]; rfl))
            have hg6 : decide (0 < x.f2.length) = true:=decide_eq_true (by omega)
            have hz' : decide (x.f2.length = 0) = false:=decide_eq_false hz
            rw [hz'] at hthd2
            clear hz
            have hno : Aside0 (T = false):=HNO.out (by unfold stepR; rw [hthd2]; simp)
            clear hthd2
            go_wp2_with (go_at_call 70; refine (hLn.out _ hS2).mono ?_; rintro e w5 ⟨rfl,hb5⟩; have hX5:=blk_below hX2 hb5; obtain ⟨j0,j1,j2,j3⟩:=cells4 hX5; clear k0 k1 k2 k3; have HB5:=Aside0.mk (HS2.out.trans (hb5.mono HS2.out.size)); replace hX5:=Aside0.mk hX5; clear hb5)
            go_ret
            exact ⟨by rw [hno.out]; rfl,HB5.out⟩
   ·have hie : i = l.length:=by omega
    have hdb : decide ((i : Int) < (l.length : Int)) = false:=decide_eq_false (by omega)
    have hTt : Aside0 (T = true):=⟨by rw [← HT.out]; exact (tree_steps hbig).2 (fun j hj => S1.out j hj (by omega))⟩
    go_wp2
    go_ret
    exact ⟨by rw [hTt.out]; rfl,B1.out⟩
 ·have hb1 : decide ((l.length : Int) > 1024) = true:=decide_eq_true (by omega)
  have hb2 : decide ((1024 : Int) < (l.length : Int)) = true:=decide_eq_true (by omega)
  have ht : treeB l = false:=by unfold treeB; rw [decide_eq_false hbig,Bool.false_and]
  rw [ht]
  clear ht
  go_enter Tryz.func31,Tryz.ntmps31
  go_wp2
  go_ret
  exact ⟨rfl,Below.refl _ _⟩
set_option maxHeartbeats 4000000 in
set_option maxRecDepth 1000000 in
theorem kindR_at (k : Int) (h0 : 1 ≤ k) (h9 : k ≤ 9) (U : World) : Calls Tryz.prog 60 #[.int .i64 k] U fun e w' => e = .returned (.int .i64 (kindV k)) ∧ w' = U:=by
 have hk : k = 1 ∨ k = 2 ∨ k = 3 ∨ k = 4 ∨ k = 5 ∨ k = 6 ∨ k = 7 ∨ k = 8 ∨ k = 9:=by omega
 rcases hk with rfl | rfl | rfl | rfl | rfl | rfl | rfl | rfl | rfl <;> (clear h0 h9; go_enter Tryz.func60,Tryz.ntmps60; go_wp2; go_ret; exact ⟨rfl,rfl⟩)
set_option maxHeartbeats 4000000 in
set_option maxRecDepth 1000000 in
theorem roomR_at (l : List S41) (A : Option Addr) (c : Nat) (s : ByteArray) (w : World) (hr : Kd.C k41 w A l.length l) (hc : l.length ≤ c) (hn : l.length ≤ 140737488355328) (hs : s.size ≤ 140737488355328) :
  Calls Tryz.prog 61 #[.slice A l.length c,.string s] w fun e w' => e = .returned (.int .i64 (roomV l s)) ∧ Below w.heap.size w w':=by
 have hF:=find_at l A c s w hr hc hn w (Below.refl _ _)
 have hP:=fun U => parentR_at s hs U
 have hG:=fun q U h => find_at l A c q w hr hc hn U h
 obtain ⟨r,hrr⟩ : ∃ r,roomV l s = r:=⟨_,rfl⟩
 rw [hrr]
 unfold roomV at hrr
 replace hG:=Aside0.mk hG
 clear hr hc hn hs
 obtain ⟨y,hy⟩ : ∃ y,thingAt l s = y:=⟨_,rfl⟩
 rw [hy] at hF
 clear hy
 go_enter Tryz.func61,Tryz.ntmps61
 cases hf : findV l s with
 | some x =>
  rw [hf] at hF hrr
  have hr2:=Aside0.mk hrr
  clear hrr hf hP
  go_wp2_with (fail)
  refine hF.mono ?_
  rintro e w1 ⟨X,d,rfl,-,-,hb1⟩
  go_wp2
  go_ret
  exact ⟨by rw [← hr2.out]; rfl,hb1.alloc (by have:=hb1.size; omega) _⟩
 | none =>
  rw [hf] at hF hrr
  clear hf
  go_wp2_with (fail)
  refine hF.mono ?_
  rintro e w1 ⟨X,d,rfl,-,-,hb1⟩
  clear hF
  have hw1 : Below w.heap.size w (w1.alloc (.cells #[.string y.f0,.int .i64 y.f1,.slice X y.f2.length d,.string y.f3] 41)):=hb1.alloc (by have:=hb1.size; omega) _
  cases hp : parentV s with
  | none =>
   rw [hp] at hP hrr
   have hr2:=Aside0.mk hrr
   clear hrr hp
   go_wp2_with (fail)
   refine (hP _).mono ?_
   rintro e w2 ⟨rfl,hb2⟩
   have hw2:=hw1.trans (hb2.mono hw1.size)
   go_wp2
   go_ret
   exact ⟨by rw [← hr2.out]; rfl,hw2⟩
  | some q =>
   rw [hp] at hP hrr
   clear hp
   have hGq:=fun U h => hG.out q U h
   obtain ⟨z,hz⟩ : ∃ z,thingAt l q = z:=⟨_,rfl⟩
   rw [hz] at hGq
   have hzz : ∀ y,findV l q = some y → z = y:=fun y h => by rw [← hz]; unfold thingAt; rw [h]; rfl
   clear hz
   go_wp2_with (fail)
   refine (hP _).mono ?_
   rintro e w2 ⟨rfl,hb2⟩
   have hw2:=hw1.trans (hb2.mono hw1.size)
   clear hb1 hb2 hP
   replace hw2:=Aside0.mk hw2
   cases hf : findV l q with
   | none =>
    rw [hf] at hGq hrr
    have hr2:=Aside0.mk hrr
    clear hrr hf hzz hw1
    go_wp2_with (fail)
    refine (hGq _ hw2.out).mono ?_
    rintro e w3 ⟨X3,d3,rfl,-,-,hb3⟩
    have hw3:=hw2.out.trans (hb3.mono hw2.out.size)
    go_wp2
    go_ret
    exact ⟨by rw [← hr2.out]; rfl,hw3.alloc (by have:=hw3.size; omega) _⟩
   | some v =>
    have:=hzz v hf
    subst this
    rw [hf] at hGq hrr
    clear hf hzz hw1
    by_cases hk : z.f1 = 1
    ·have hkb : (z.f1 != 1) = false:=by rw [hk]; rfl
     have hr2 : Aside0 (r = 0):=⟨by rw [← hrr]; simp [hk]⟩
     clear hrr hk
     go_wp2_with (fail)
     refine (hGq _ hw2.out).mono ?_
     rintro e w3 ⟨X3,d3,rfl,-,-,hb3⟩
     have hw3:=hw2.out.trans (hb3.mono hw2.out.size)
     go_wp2
     go_ret
     exact ⟨by rw [hr2.out]; rfl,hw3.alloc (by have:=hw3.size; omega) _⟩
    ·have hkb : (z.f1 != 1) = true:=by rw [bne_iff_ne]; exact hk
     have hr2 : Aside0 (r = 73):=⟨by rw [← hrr]; simp [hk]⟩
     clear hrr hk
     go_wp2_with (fail)
     refine (hGq _ hw2.out).mono ?_
     rintro e w3 ⟨X3,d3,rfl,-,-,hb3⟩
     have hw3:=hw2.out.trans (hb3.mono hw2.out.size)
     go_wp2
     go_ret
     exact ⟨by rw [hr2.out]; rfl,hw3.alloc (by have:=hw3.size; omega) _⟩
open Go.RowKit Go.Proofs.YthhohbidjhcjeaaGreatDoor.Q Go.Proofs.YthhohbidjhcjeaaGreatDoor.Pl
def dLen (p : S25) : Int:=if p.f0 = 1 ∨ p.f0 = 3 ∨ p.f0 = 5 then 1 else if p.f0 = 2 ∨ p.f0 = 4 ∨ p.f0 = 6 then -1 else 0
theorem do_len {l : List S41} {p : S25} (h : applyE l p = 0) : ((doL l p).length : Int) = l.length + dLen p:=by
 obtain ⟨ht,hp,hd⟩:=apply_zero.mp h
 unfold dLen
 rcases kinds4 hp with hk | hk | ⟨h7,h9⟩ | h10
 ·obtain ⟨e1,e2⟩:=doE_add (l:=l) hk
  rw [e2,if_pos hk,ins_len]; omega
 ·obtain ⟨e1,e2⟩:=doE_remove (l:=l) hk
  rw [e1] at hd
  have:=del_len ht.s ((remove_zero ht.s).mp hd).1
  rw [e2,if_neg (by omega),if_pos hk]; omega
 ·obtain ⟨e1,e2⟩:=doE_change (l:=l) h7 h9
  rw [e2,if_neg (by omega),if_neg (by omega)]
  unfold changeL
  rw [set_len]; omega
 ·obtain ⟨e1,e2⟩:=doE_move (l:=l) h10
  rw [e2,if_neg (by omega),if_neg (by omega)]
  unfold moveL
  rw [sort_len,List.length_map]; omega
theorem right_ne {s : ByteArray} (h : rightB s = true) : s ≠ e0:=by
 rintro rfl
 have : rightB e0 = false:=by decide +kernel
 rw [this] at h; cases h
theorem low_at {l : List S41} (hs : Srt l) {i : Nat} (hi : i < l.length) : lowB l (l.getD i z41).f0 = i ∧ findV l (l.getD i z41).f0 = some (l.getD i z41):=by
 have hm : l.getD i z41 ∈ l:=by rw [getD_get hi]; exact List.getElem_mem hi
 have hf:=find_of_mem hs hm
 obtain ⟨h1,h2⟩:=(has_find hs _).2 _ hf
 refine ⟨?_,hf⟩
 rcases Nat.lt_trichotomy (lowB l (l.getD i z41).f0) i with h | h | h
 ·have:=srt_get hs h hi
  rw [h1,ltP_irrefl] at this; cases this
 ·exact h
 ·have:=srt_get hs h h2
  rw [h1,ltP_irrefl] at this; cases this
def outB (s : ByteArray) (x : S41) : Bool:=!(x.f0.toList == s.toList)
theorem filter_more {l : List S41} {i : Nat} (hi : i < l.length) (f : S41 → Bool) : (l.take (i + 1)).filter f = (l.take i).filter f ++ (if f l[i] then [l[i]] else []):=by
 rw [List.take_succ_eq_append_getElem hi,List.filter_append]
 cases h : f l[i] <;> simp [h]
theorem filter_small (l : List S41) (i : Nat) (f : S41 → Bool) : ((l.take i).filter f).length ≤ l.length :=
 Nat.le_trans (List.length_filter_le _ _) (by rw [List.length_take]; omega)
set_option maxHeartbeats 4000000 in
set_option maxRecDepth 1000000 in
theorem withoutR_at (l : List S41) (A : Option Addr) (c : Nat) (s : ByteArray) (w : World) (hr : Kd.C k41 w A l.length l) (hc : l.length ≤ c) (hn : l.length ≤ 1000000000) :
  Calls Tryz.prog 64 #[.slice A l.length c,.string s] w fun e w' => ∃ v,e = .returned v ∧ Kd.N k41 41 w' w.heap.size (fun _ => True) v (l.filter (outB s)) ∧ Below w.heap.size w w':=by
 have HR:=Aside0.mk hr
 have HC:=Aside0.mk hc
 have HN:=Aside0.mk hn
 have B0 : Aside0 (Below w.heap.size w w):=⟨Below.refl _ _⟩
 have N0 : Aside0 (Kd.N k41 41 w w.heap.size (fun _ => True) (.slice none 0 0) ((l.take 0).filter (outB s))):=⟨Kd.N_nil _ _ _ _ _⟩
 clear hr hc
 go_enter Tryz.func64,Tryz.ntmps64
 go_wp2
 go_loopg [5,6] l.length (fun kx s5 s6 wr => ∃ (i : Nat) (v : Value),v = s5 ∧ s6 = .int .i64 i ∧ i + kx = l.length ∧ Aside0 (Below w.heap.size w wr) ∧ Aside0 (Kd.N k41 41 wr w.heap.size (fun _ => True) v ((l.take i).filter (outB s))))
 case atStart => exact ⟨0,_,rfl,rfl,by omega,B0,N0⟩
 case round =>
  clear B0 N0
  obtain ⟨i,v,rfl,rfl,hi,B1,N1⟩:=hrel
  by_cases hlt : i < l.length
  ·have hi0 : (0 : Int) ≤ (i : Int):=by omega
   have hi1 : (i : Int) < (l.length : Int):=by omega
   have hdb : decide ((i : Int) < (l.length : Int)) = true:=decide_eq_true hi1
   have hwi : IntKind.i64.wrap ((i : Int) + 1) = ((i + 1 : Nat) : Int):=by rw [wrap_small _ (by omega) (by omega)]; omega
   obtain ⟨ad,X,d,rfl,rx,q0,q1,q2,q3⟩:=ent_at HR.out i hlt rfl
   obtain ⟨x,hx⟩ : ∃ x,l.getD i z41 = x:=⟨_,rfl⟩
   rw [hx] at rx q0 q1 q2 q3
   have hxi : l[i] = x:=by rw [← hx,getD_get hlt]
   replace q0:=pw_cell_below B1.out q0
   replace q1:=pw_cell_below B1.out q1
   replace q2:=pw_cell_below B1.out q2
   replace q3:=pw_cell_below B1.out q3
   have hfm:=filter_more hlt (outB s)
   rw [hxi] at hfm
   have hfs:=Aside0.mk (filter_small l i (outB s))
   have hFK:=Aside0.mk (k41_mkF wr (fun k => k < w.heap.size) x rx.l (Kd.F_below (Kd.C_F Kd.heap_string rx.g) B1.out))
   clear hx hxi rx
   cases ho : outB s x with
   | false =>
    have hbe : (x.f0.toList == s.toList) = true:=by simpa [outB] using ho
    rw [ho] at hfm
    replace hfm:=Aside0.mk hfm
    clear ho
    go_wp2
    go_roundg (l.length - (i + 1))
    case measure => omega
    case rel => exact ⟨i + 1,_,rfl,by first | rfl | (rw [hwi]),by omega,B1,⟨by rw [hfm.out]; simpa using N1.out⟩⟩
   | true =>
    have hbe : (x.f0.toList == s.toList) = false:=by simpa [outB] using ho
    rw [ho,if_pos rfl] at hfm
    replace hfm:=Aside0.mk hfm
    clear ho
    have okp : Aside0 (∀ k,k < w.heap.size → True ∧ some k ≠ v.ownBlock):=⟨fun k hk => ⟨trivial,fun e => absurd (Kd.N_base N1.out k e.symm) (by omega)⟩⟩
    go_wp2_with (((with_reducible refine gate_builtin (b:=.append) (xs:=#[.tmp 20,.tmp 25]) rfl ?_); at_builtin; refine Kd.N_append k41 (w0:=w) w.heap.size rfl (.tmp 20) (.tmp 25) 22 41 (.agg #[(.string ⟨#[]⟩),(.int .i64 0),(.slice none 0 0),(.string ⟨#[]⟩)]) 64 rfl Tryz.underlying22 info41 rfl (by decide) (by omega) v ((l.take i).filter (outB s)) x [.string x.f0,.int .i64 x.f1,.slice X x.f2.length d,.string x.f3] (fun _ => True) (fun k => k < w.heap.size) rfl rfl ?aP ?aK (fun _ _ => trivial) ?aO ?aB ?aS ?aL ?_; (case aP => exact hFK.out); (case aK => exact okp.out); (case aO => exact N1.out); (case aB => exact B1.out); (case aS => exact B1.out.size); (case aL => have:=hfs.out; have:=HN.out; omega); intro v1 y1 hN1 hB1 hg_ hat_; replace hN1:=Aside0.mk hN1; replace hB1:=Aside0.mk hB1; clear hg_ hat_))
    go_roundg (l.length - (i + 1))
    case measure => omega
    case rel => exact ⟨i + 1,_,rfl,by first | rfl | (rw [hwi]),by omega,hB1,⟨by rw [hfm.out]; exact hN1.out⟩⟩
  ·have hdb : decide ((i : Int) < (l.length : Int)) = false:=decide_eq_false (by omega)
   have hall : Aside0 (l.take i = l):=⟨List.take_of_length_le (by omega)⟩
   go_wp2
   go_ret
   exact ⟨_,rfl,by have:=N1.out; rwa [hall.out] at this,B1.out⟩
def insR (x : S41) : List S41 → List S41
 | [] => [x]
 | y :: r => if ltP x.f0 y.f0 then x :: y :: r else y :: insR x r
def sortR (l : List S41) : List S41:=l.foldl (fun o x => insR x o) []
def doneV (x : S41) (o : List S41) : Bool:=o.any (fun y => ltP x.f0 y.f0)
def nextV (x : S41) (o : List S41) : List S41:=if doneV x o then insR x o else o
theorem ins_no {x : S41} : ∀ {o : List S41},doneV x o = false → insR x o = o ++ [x]
 | [],_ => rfl
 | y :: r,h => by
  simp only [doneV,List.any_cons,Bool.or_eq_false_iff] at h
  simp only [insR,h.1]
  rw [if_neg (by decide),ins_no (by simpa [doneV] using h.2)]
  rfl
theorem ins_yes {x : S41} : ∀ {o : List S41} (r : List S41),doneV x o = true → insR x (o ++ r) = insR x o ++ r
 | [],_,h => by cases h
 | y :: q,r,h => by
  simp only [List.cons_append,insR]
  by_cases hy : ltP x.f0 y.f0 = true
  ·rw [if_pos hy,if_pos hy]; rfl
  ·rw [if_neg hy,if_neg hy,ins_yes (o:=q) r (by simpa [doneV,hy] using h)]; rfl
theorem ins_at {x : S41} : ∀ {o : List S41} (r : List S41),doneV x o = false → insR x (o ++ r) = o ++ insR x r
 | [],_,_ => rfl
 | y :: q,r,h => by
  simp only [doneV,List.any_cons,Bool.or_eq_false_iff] at h
  simp only [List.cons_append,insR,h.1]
  rw [if_neg (by decide),ins_at r (by simpa [doneV] using h.2)]
theorem next_put {x y : S41} {o : List S41} (h : doneV x o = false) (hy : ltP x.f0 y.f0 = true) : doneV x (o ++ [y]) = true ∧ nextV x (o ++ [y]) = (nextV x o ++ [x]) ++ [y]:=by
 have h2 : doneV x (o ++ [y]) = true:=by simp [doneV,hy]
 refine ⟨h2,?_⟩
 unfold nextV
 rw [h2,if_pos rfl,h,if_neg (by decide),ins_at _ h,insR,if_pos hy,List.append_assoc]
 rfl
theorem next_go {x y : S41} {o : List S41} (h : doneV x o = true ∨ ltP x.f0 y.f0 = false) : doneV x (o ++ [y]) = doneV x o ∧ nextV x (o ++ [y]) = nextV x o ++ [y]:=by
 cases hd : doneV x o with
 | true =>
  have h2 : doneV x (o ++ [y]) = true:=by simp only [doneV,List.any_append,Bool.or_eq_true]; left; exact hd
  refine ⟨h2,?_⟩
  unfold nextV
  rw [h2,hd,if_pos rfl,if_pos rfl,ins_yes _ hd]
 | false =>
  have hy : ltP x.f0 y.f0 = false:=by
   rcases h with h | h
   ·rw [hd] at h; cases h
   ·exact h
  have h2 : doneV x (o ++ [y]) = false:=by simp only [doneV,List.any_append,Bool.or_eq_false_iff]; exact ⟨hd,by simp [hy]⟩
  refine ⟨h2,?_⟩
  unfold nextV
  rw [h2,hd,if_neg (by decide),if_neg (by decide)]
theorem next_end {x : S41} {o : List S41} : insR x o = if doneV x o then nextV x o else nextV x o ++ [x]:=by
 unfold nextV
 cases hd : doneV x o with
 | true => rfl
 | false => exact ins_no hd
theorem insR_len (x : S41) : ∀ o : List S41,(insR x o).length = o.length + 1
 | [] => rfl
 | y :: r => by
  unfold insR
  split
  ·rfl
  ·rw [List.length_cons,insR_len x r,List.length_cons]
theorem next_len (x : S41) (o : List S41) : (nextV x o).length ≤ o.length + 1:=by
 unfold nextV
 split
 ·rw [insR_len]; omega
 ·omega
theorem sortR_more {l : List S41} {i : Nat} (hi : i < l.length) : sortR (l.take (i + 1)) = insR l[i] (sortR (l.take i)):=by
 unfold sortR
 rw [List.take_succ_eq_append_getElem hi,List.foldl_append]
 rfl
theorem sortR_len : ∀ l : List S41,(sortR l).length = l.length:=by
 have h : ∀ (l o : List S41),(l.foldl (fun o x => insR x o) o).length = o.length + l.length:=by
  intro l
  induction l with
  | nil => intro o; rfl
  | cons x l ih => intro o; rw [List.foldl_cons,ih,insR_len,List.length_cons]; omega
 intro l
 have:=h l []
 simpa [sortR] using this
set_option maxHeartbeats 8000000 in
set_option maxRecDepth 1000000 in
theorem sortedR_at (l : List S41) (A : Option Addr) (c : Nat) (w : World) (hr : Kd.C k41 w A l.length l) (hc : l.length ≤ c) (hn : l.length ≤ 1000000) :
  Calls Tryz.prog 108 #[.slice A l.length c] w fun e w' => ∃ v,e = .returned v ∧ Kd.N k41 41 w' w.heap.size (fun _ => True) v (sortR l) ∧ Below w.heap.size w w':=by
 have HR:=Aside0.mk hr
 have HC:=Aside0.mk hc
 have HN:=Aside0.mk hn
 have B0 : Aside0 (Below w.heap.size w w):=⟨Below.refl _ _⟩
 have N0 : Aside0 (Kd.N k41 41 w w.heap.size (fun _ => True) (.slice none 0 0) (sortR (l.take 0))):=⟨Kd.N_nil _ _ _ _ _⟩
 clear hr hc
 go_enter Tryz.func108,Tryz.ntmps108
 go_wp2
 go_loopg [3,4] l.length (fun kx s3 s4 wr => ∃ (i : Nat) (v : Value),v = s3 ∧ s4 = .int .i64 i ∧ i + kx = l.length ∧ Aside0 (Below w.heap.size w wr) ∧ Aside0 (Kd.N k41 41 wr w.heap.size (fun _ => True) v (sortR (l.take i))))
 case atStart => exact ⟨0,_,rfl,rfl,by omega,B0,N0⟩
 case round =>
  clear B0 N0
  obtain ⟨i,v,rfl,rfl,hi,B1,N1⟩:=hrel
  by_cases hlt : i < l.length
  ·have hi0 : (0 : Int) ≤ (i : Int):=by omega
   have hi1 : (i : Int) < (l.length : Int):=by omega
   have hdb : decide ((i : Int) < (l.length : Int)) = true:=decide_eq_true hi1
   have hwi : IntKind.i64.wrap ((i : Int) + 1) = ((i + 1 : Nat) : Int):=by rw [wrap_small _ (by omega) (by omega)]; omega
   obtain ⟨ad,X,d,rfl,rx,q0,q1,q2,q3⟩:=ent_at HR.out i hlt rfl
   obtain ⟨x,hx⟩ : ∃ x,l.getD i z41 = x:=⟨_,rfl⟩
   rw [hx] at rx q0 q1 q2 q3
   have hsm:=sortR_more hlt
   rw [show l[i] = x by rw [← hx,getD_get hlt]] at hsm
   replace q0:=Aside0.mk q0
   replace q1:=Aside0.mk q1
   replace q2:=Aside0.mk q2
   replace q3:=Aside0.mk q3
   have hFK : Aside0 (∀ wr,Below w.heap.size w wr → Kd.FK k41 wr (fun k => k < w.heap.size) x [.string x.f0,.int .i64 x.f1,.slice X x.f2.length d,.string x.f3]):=⟨fun wr h => k41_mkF wr _ x rx.l (Kd.F_below (Kd.C_F Kd.heap_string rx.g) h)⟩
   have hol : (sortR (l.take i)).length = i:=by rw [sortR_len,List.length_take]; omega
   obtain ⟨o,ho⟩ : ∃ o,sortR (l.take i) = o:=⟨_,rfl⟩
   rw [ho] at hsm hol N1
   replace hol:=Aside0.mk hol
   replace hsm:=Aside0.mk hsm
   obtain ⟨Ao,co,hvo⟩:=Kd.N_slice N1.out
   subst hvo
   have O0 : Aside0 (Kd.N k41 41 wr w.heap.size (fun k => True ∧ some k ≠ (Value.slice none 0 0).ownBlock) (.slice Ao o.length co) o):=⟨Kd.N_apart_nil N1.out⟩
   have M0 : Aside0 (Kd.N k41 41 wr w.heap.size (fun _ => True) (.slice none 0 0) (nextV x (o.take 0))):=⟨Kd.N_nil _ _ _ _ _⟩
   clear hx rx ho
   go_wp2
   go_loopg [5,6,7] o.length (fun kx s5 s6 s7 wv => ∃ (k : Nat) (u : Value),u = s5 ∧ s6 = .bool (doneV x (o.take k)) ∧ s7 = .int .i64 k ∧ k + kx = o.length ∧ Aside0 (Below w.heap.size w wv) ∧ Aside0 (Kd.N k41 41 wv w.heap.size (fun _ => True) u (nextV x (o.take k))) ∧ Aside0 (Kd.N k41 41 wv w.heap.size (fun k => True ∧ some k ≠ u.ownBlock) (.slice Ao o.length co) o))
   case atStart => exact ⟨0,_,rfl,rfl,rfl,by omega,B1,M0,O0⟩
   case round =>
    clear B1 N1 O0 M0
    obtain ⟨k,u,rfl,rfl,rfl,hk,B2,M2,O2⟩:=hrel
    by_cases hkt : k < o.length
    ·have hk0 : (0 : Int) ≤ (k : Int):=by omega
     have hk1 : (k : Int) < (o.length : Int):=by omega
     have hdk : decide ((k : Int) < (o.length : Int)) = true:=decide_eq_true hk1
     have hwk : IntKind.i64.wrap ((k : Int) + 1) = ((k + 1 : Nat) : Int):=by have:=hol.out; rw [wrap_small _ (by omega) (by omega)]; omega
     obtain ⟨g,cap,hve,hgb,hgl,-⟩:=Kd.N_form O2.out (by omega)
     injection hve with e1 e2 e3
     subst e1
     subst e3
     have B2' : Aside0 (Below w.heap.size w wr.drew):=⟨below_drew B2.out⟩
     have M2' : Aside0 (Kd.N k41 41 wr.drew w.heap.size (fun _ => True) u (nextV x (o.take k))):=⟨Kd.N_drew M2.out⟩
     have O2' : Aside0 (Kd.N k41 41 wr.drew w.heap.size (fun k => True ∧ some k ≠ u.ownBlock) (.slice (some ⟨g,0,none⟩) o.length co) o):=⟨Kd.N_drew O2.out⟩
     have hsz : Aside0 ((nextV x (o.take k)).length ≤ l.length + 1):=⟨Nat.le_trans (next_len _ _) (by have:=hol.out; rw [List.length_take]; omega)⟩
     obtain ⟨cs,hcl,hFy,hcc,-⟩:=Kd.N_elem O2'.out z41 (k : Int) hk0 hk1
     rw [Int.toNat_natCast] at hFy hcc
     obtain ⟨y,hy⟩ : ∃ y,o.getD k z41 = y:=⟨_,rfl⟩
     rw [hy] at hFy
     have hyk : o.take (k + 1) = o.take k ++ [y]:=by rw [List.take_succ_eq_append_getElem hkt,← hy,getD_get hkt]
     obtain ⟨Y,dy,rfl,-,-⟩:=k41_openF hFy
     have d0 : wr.cell? ⟨g,k * 4,none⟩ = some (.string y.f0):=(Kd.N_elem O2.out z41 (k : Int) hk0 hk1).elim (fun c2 h2 => by
      obtain ⟨h21,h22,h23,-⟩:=h2
      rw [Int.toNat_natCast,hy] at h22
      rw [Int.toNat_natCast] at h23
      obtain ⟨Y2,dy2,rfl,-,-⟩:=k41_openF h22
      exact h23 0 _ rfl)
     have r0:=pw_cell_below B2.out q0.out
     replace hFy:=Aside0.mk hFy
     have gO : ∀ (u2 : Value) (y2 : World),wr.drew.grownBy y2 u.ownBlock → (u2.ownBlock = u.ownBlock ∨ ∃ b,u2.ownBlock = some b ∧ wr.drew.heap.size ≤ b) → Kd.N k41 41 y2 w.heap.size (fun k => True ∧ some k ≠ u2.ownBlock) (.slice (some ⟨g,0,none⟩) o.length co) o:=fun u2 y2 h1 h2 => Kd.N_after O2'.out h1 h2
     replace gO:=Aside0.mk gO
     have okx : Aside0 (∀ k,k < w.heap.size → True ∧ some k ≠ u.ownBlock):=⟨fun k hk => ⟨trivial,fun e => absurd (Kd.N_base M2.out k e.symm) (by omega)⟩⟩
     have HK:=Aside0.mk hyk
     have hyy:=Aside0.mk hy
     clear hyk hy hgb hgl hcl e2
     obtain ⟨D,hD⟩ : ∃ D,doneV x (o.take k) = D:=⟨_,rfl⟩
     obtain ⟨Bl,hBl⟩ : ∃ B,ltP x.f0 y.f0 = B:=⟨_,rfl⟩
     have hgo:=fun h => next_go (x:=x) (y:=y) (o:=o.take k) h
     have hpu:=fun h1 h2 => next_put (x:=x) (y:=y) (o:=o.take k) h1 h2
     rw [hD,hBl] at hgo hpu
     have h1 : ltP y.f0 x.f0 = true → Bl = false:=fun h => by rw [← hBl]; exact ltP_asymm h
     have h2 : (y.f0.toList == x.f0.toList) = true → Bl = false:=fun h => by rw [← hBl,toList_inj (eq_of_beq h)]; exact ltP_irrefl _
     have h3 : ltP y.f0 x.f0 = false → (y.f0.toList == x.f0.toList) = false → Bl = true:=fun h k => by rw [← hBl]; exact ltP_total h (fun e => by rw [e] at k; simp at k)
     obtain ⟨L,hL⟩ : ∃ L,ltP y.f0 x.f0 = L:=⟨_,rfl⟩
     have hbl : Op.bytesLess y.f0.toList x.f0.toList = L:=hL
     obtain ⟨Q,hQ⟩ : ∃ Q,(y.f0.toList == x.f0.toList) = Q:=⟨_,rfl⟩
     rw [hL] at h1 h3
     rw [hQ] at h2 h3
     replace h1:=Aside0.mk h1
     replace h2:=Aside0.mk h2
     replace h3:=Aside0.mk h3
     clear hL
     rw [hD]
     replace hgo:=Aside0.mk hgo
     replace hpu:=Aside0.mk hpu
     clear hD hBl
     cases D with
     | true =>
      have e0 : wr.drew.cell? ⟨g,k * 4,none⟩ = some (.string y.f0):=hcc 0 _ rfl
      have e1 : wr.drew.cell? ⟨g,k * 4 + 1,none⟩ = some (.int .i64 y.f1):=hcc 1 _ rfl
      have e2 : wr.drew.cell? ⟨g,k * 4 + 2,none⟩ = some (.slice Y y.f2.length dy):=hcc 2 _ rfl
      have e3 : wr.drew.cell? ⟨g,k * 4 + 3,none⟩ = some (.string y.f3):=hcc 3 _ rfl
      have hm:=hgo.out (Or.inl rfl)
      go_upto_region 10 with (fail)
      refine wp_region_held_drew (S:=Below wr.drew.heap.size wr.drew) (by kernel_rfl) (Below.refl _ _) (fun hS => ?_)
      refine' tkE 0 20 hS ?_ ?_; rotate_left
      ·intro W' hSW; go_simp; (try with_reducible rfl)
      refine' tkE 1 21 hS ?_ ?_; rotate_left
      ·intro W' hSW; go_simp; (try with_reducible rfl)
      refine' tkE 2 22 hS ?_ ?_; rotate_left
      ·intro W' hSW; go_simp; (try with_reducible rfl)
      simp only [Act.put,List.setIfInBounds_toArray,List.set_cons_zero,List.set_cons_succ]
      refine tkUs (fun _ _ _ _ h => h) hS [(3,23),(4,24),(5,25),(6,26),(7,27),(8,28),(9,29),(10,30),(11,31),(12,32),(13,33)] 1 rfl (by kernel_rfl) ?_
      simp only [skipL,skipP,Act.put,List.setIfInBounds_toArray,List.set_cons_zero,List.set_cons_succ]
      refine' tkE 14 34 hS ?_ ?_; rotate_left
      ·intro W' hSW; go_simp; (try with_reducible rfl)
      simp only [Act.put,List.setIfInBounds_toArray,List.set_cons_zero,List.set_cons_succ]
      refine wpAnyH_done (by kernel_rfl) ?_ _
      try clear hcc
      generalize wr.drew = wd at B2' M2' O2' hFy gO e0 e1 e2 e3 ⊢
      go_wp2_with (((with_reducible refine gate_builtin (b:=.append) (xs:=#[.tmp 42,.tmp 47]) rfl ?_); at_builtin; refine Kd.N_append k41 (w0:=w) w.heap.size rfl (.tmp 42) (.tmp 47) 22 41 (.agg #[(.string ⟨#[]⟩),(.int .i64 0),(.slice none 0 0),(.string ⟨#[]⟩)]) 64 rfl Tryz.underlying22 info41 rfl (by decide) (by omega) u (nextV x (o.take k)) y [.string y.f0,.int .i64 y.f1,.slice Y y.f2.length dy,.string y.f3] (fun _ => True) (fun k => (True ∧ some k ≠ u.ownBlock) ∧ k ≠ g) rfl rfl ?aP ?aK (fun _ _ => trivial) ?aO ?aB ?aS ?aL ?_; (case aP => exact hFy.out); (case aK => exact (fun k h => h.1)); (case aO => exact M2'.out); (case aB => exact B2'.out); (case aS => exact (B2'.out).size); (case aL => have:=hsz.out; have:=HN.out; first | omega | (rw [List.length_append,List.length_singleton]; omega)); intro v1 y1 hN1 hB1 hg1 hat1; replace hN1:=Aside0.mk hN1; replace hB1:=Aside0.mk hB1; replace hg1:=Aside0.mk hg1; replace hat1:=Aside0.mk hat1))
      go_roundg (o.length - (k + 1))
      case measure => omega
      case rel => exact ⟨k + 1,_,rfl,by rw [HK.out,hm.1],by first | rfl | (rw [hwk]),by omega,hB1,⟨by rw [HK.out,hm.2]; exact hN1.out⟩,⟨gO.out _ _ hg1.out hat1.out⟩⟩
     | false =>
      cases L with
      | true =>
       have hB:=h1.out rfl
       subst hB
       have e0 : wr.drew.cell? ⟨g,k * 4,none⟩ = some (.string y.f0):=hcc 0 _ rfl
       have e1 : wr.drew.cell? ⟨g,k * 4 + 1,none⟩ = some (.int .i64 y.f1):=hcc 1 _ rfl
       have e2 : wr.drew.cell? ⟨g,k * 4 + 2,none⟩ = some (.slice Y y.f2.length dy):=hcc 2 _ rfl
       have e3 : wr.drew.cell? ⟨g,k * 4 + 3,none⟩ = some (.string y.f3):=hcc 3 _ rfl
       have hm:=hgo.out (Or.inr rfl)
       go_upto_region 10 with (fail)
       go_region_held3 (fun U => U.cell? (ad.add (i * 4)) = some (.string x.f0) ∧ U.cell? ⟨g,k * 4,none⟩ = some (.string y.f0)) (exact ⟨r0,d0⟩) (fail)
       try clear hcc
       generalize wr.drew = wd at B2' M2' O2' hFy gO e0 e1 e2 e3 ⊢
       go_wp2_with (((with_reducible refine gate_builtin (b:=.append) (xs:=#[.tmp 42,.tmp 47]) rfl ?_); at_builtin; refine Kd.N_append k41 (w0:=w) w.heap.size rfl (.tmp 42) (.tmp 47) 22 41 (.agg #[(.string ⟨#[]⟩),(.int .i64 0),(.slice none 0 0),(.string ⟨#[]⟩)]) 64 rfl Tryz.underlying22 info41 rfl (by decide) (by omega) u (nextV x (o.take k)) y [.string y.f0,.int .i64 y.f1,.slice Y y.f2.length dy,.string y.f3] (fun _ => True) (fun k => (True ∧ some k ≠ u.ownBlock) ∧ k ≠ g) rfl rfl ?aP ?aK (fun _ _ => trivial) ?aO ?aB ?aS ?aL ?_; (case aP => exact hFy.out); (case aK => exact (fun k h => h.1)); (case aO => exact M2'.out); (case aB => exact B2'.out); (case aS => exact (B2'.out).size); (case aL => have:=hsz.out; have:=HN.out; first | omega | (rw [List.length_append,List.length_singleton]; omega)); intro v1 y1 hN1 hB1 hg1 hat1; replace hN1:=Aside0.mk hN1; replace hB1:=Aside0.mk hB1; replace hg1:=Aside0.mk hg1; replace hat1:=Aside0.mk hat1))
       go_roundg (o.length - (k + 1))
       case measure => omega
       case rel => exact ⟨k + 1,_,rfl,by rw [HK.out,hm.1],by first | rfl | (rw [hwk]),by omega,hB1,⟨by rw [HK.out,hm.2]; exact hN1.out⟩,⟨gO.out _ _ hg1.out hat1.out⟩⟩
      | false =>
      cases Q with
      | true =>
       have hB:=h2.out rfl
       subst hB
       have e0 : wr.drew.cell? ⟨g,k * 4,none⟩ = some (.string y.f0):=hcc 0 _ rfl
       have e1 : wr.drew.cell? ⟨g,k * 4 + 1,none⟩ = some (.int .i64 y.f1):=hcc 1 _ rfl
       have e2 : wr.drew.cell? ⟨g,k * 4 + 2,none⟩ = some (.slice Y y.f2.length dy):=hcc 2 _ rfl
       have e3 : wr.drew.cell? ⟨g,k * 4 + 3,none⟩ = some (.string y.f3):=hcc 3 _ rfl
       have hm:=hgo.out (Or.inr rfl)
       go_upto_region 10 with (fail)
       go_region_held3 (fun U => U.cell? (ad.add (i * 4)) = some (.string x.f0) ∧ U.cell? ⟨g,k * 4,none⟩ = some (.string y.f0)) (exact ⟨r0,d0⟩) (fail)
       try clear hcc
       generalize wr.drew = wd at B2' M2' O2' hFy gO e0 e1 e2 e3 ⊢
       go_wp2_with (((with_reducible refine gate_builtin (b:=.append) (xs:=#[.tmp 42,.tmp 47]) rfl ?_); at_builtin; refine Kd.N_append k41 (w0:=w) w.heap.size rfl (.tmp 42) (.tmp 47) 22 41 (.agg #[(.string ⟨#[]⟩),(.int .i64 0),(.slice none 0 0),(.string ⟨#[]⟩)]) 64 rfl Tryz.underlying22 info41 rfl (by decide) (by omega) u (nextV x (o.take k)) y [.string y.f0,.int .i64 y.f1,.slice Y y.f2.length dy,.string y.f3] (fun _ => True) (fun k => (True ∧ some k ≠ u.ownBlock) ∧ k ≠ g) rfl rfl ?aP ?aK (fun _ _ => trivial) ?aO ?aB ?aS ?aL ?_; (case aP => exact hFy.out); (case aK => exact (fun k h => h.1)); (case aO => exact M2'.out); (case aB => exact B2'.out); (case aS => exact (B2'.out).size); (case aL => have:=hsz.out; have:=HN.out; first | omega | (rw [List.length_append,List.length_singleton]; omega)); intro v1 y1 hN1 hB1 hg1 hat1; replace hN1:=Aside0.mk hN1; replace hB1:=Aside0.mk hB1; replace hg1:=Aside0.mk hg1; replace hat1:=Aside0.mk hat1))
       go_roundg (o.length - (k + 1))
       case measure => omega
       case rel => exact ⟨k + 1,_,rfl,by rw [HK.out,hm.1],by first | rfl | (rw [hwk]),by omega,hB1,⟨by rw [HK.out,hm.2]; exact hN1.out⟩,⟨gO.out _ _ hg1.out hat1.out⟩⟩
      | false =>
       have hB:=h3.out rfl rfl
       subst hB
       have hm:=hpu.out rfl rfl
       have r1:=pw_cell_below B2'.out q1.out
       have r2:=pw_cell_below B2'.out q2.out
       have r3:=pw_cell_below B2'.out q3.out
       have r0':=pw_cell_below B2'.out q0.out
       go_upto_region 10 with (fail)
       go_region_held3 (fun U => U.cell? (ad.add (i * 4)) = some (.string x.f0) ∧ U.cell? ⟨g,k * 4,none⟩ = some (.string y.f0)) (exact ⟨r0,d0⟩) (fail)
       generalize wr.drew = wd at B2' M2' O2' hFy gO r0' r1 r2 r3 ⊢
       go_upto_region 12 with (((with_reducible refine gate_builtin (b:=.append) (xs:=#[.tmp 35,.tmp 40]) rfl ?_); at_builtin; refine Kd.N_append k41 (w0:=w) w.heap.size rfl (.tmp 35) (.tmp 40) 22 41 (.agg #[(.string ⟨#[]⟩),(.int .i64 0),(.slice none 0 0),(.string ⟨#[]⟩)]) 64 rfl Tryz.underlying22 info41 rfl (by decide) (by omega) u (nextV x (o.take k)) x [.string x.f0,.int .i64 x.f1,.slice X x.f2.length d,.string x.f3] (fun _ => True) (fun k => k < w.heap.size) rfl rfl ?aP ?aK (fun _ _ => trivial) ?aO ?aB ?aS ?aL ?_; (case aP => exact hFK.out _ B2'.out); (case aK => exact okx.out); (case aO => exact M2'.out); (case aB => exact B2'.out); (case aS => exact (B2'.out).size); (case aL => have:=hsz.out; have:=HN.out; first | omega | (rw [List.length_append,List.length_singleton]; omega)); intro v1 y1 hN1 hB1 hg1 hat1; replace hN1:=Aside0.mk hN1; replace hB1:=Aside0.mk hB1; replace hg1:=Aside0.mk hg1; replace hat1:=Aside0.mk hat1))
       clear r0 r0' r1 r2 r3 d0
       have O3:=gO.out _ _ hg1.out hat1.out
       obtain ⟨cs,hcl3,hFy3,hcc3,-⟩:=Kd.N_elem O3 z41 (k : Int) hk0 hk1
       rw [Int.toNat_natCast] at hFy3 hcc3
       rw [show o.getD k z41 = y from hyy.out] at hFy3
       obtain ⟨Y3,dy3,rfl,-,-⟩:=k41_openF hFy3
       replace hFy3:=Aside0.mk hFy3
       have e0 : y1.cell? ⟨g,k * 4,none⟩ = some (.string y.f0):=hcc3 0 _ rfl
       have e1 : y1.cell? ⟨g,k * 4 + 1,none⟩ = some (.int .i64 y.f1):=hcc3 1 _ rfl
       have e2 : y1.cell? ⟨g,k * 4 + 2,none⟩ = some (.slice Y3 y.f2.length dy3):=hcc3 2 _ rfl
       have e3 : y1.cell? ⟨g,k * 4 + 3,none⟩ = some (.string y.f3):=hcc3 3 _ rfl
       replace O3:=Aside0.mk O3
       go_wp2_with (((with_reducible refine gate_builtin (b:=.append) (xs:=#[.tmp 42,.tmp 47]) rfl ?_); at_builtin; refine Kd.N_append k41 (w0:=w) w.heap.size rfl (.tmp 42) (.tmp 47) 22 41 (.agg #[(.string ⟨#[]⟩),(.int .i64 0),(.slice none 0 0),(.string ⟨#[]⟩)]) 64 rfl Tryz.underlying22 info41 rfl (by decide) (by omega) v1 (nextV x (o.take k) ++ [x]) y [.string y.f0,.int .i64 y.f1,.slice Y3 y.f2.length dy3,.string y.f3] (fun _ => True) (fun k => (True ∧ some k ≠ v1.ownBlock) ∧ k ≠ g) rfl rfl ?aP ?aK (fun _ _ => trivial) ?aO ?aB ?aS ?aL ?_; (case aP => exact hFy3.out); (case aK => exact (fun k h => h.1)); (case aO => exact hN1.out); (case aB => exact hB1.out); (case aS => exact (hB1.out).size); (case aL => have:=hsz.out; have:=HN.out; first | omega | (rw [List.length_append,List.length_singleton]; omega)); intro v2 y2 hN2 hB2 hg2 hat2; replace hN2:=Aside0.mk hN2; replace hB2:=Aside0.mk hB2; replace hg2:=Aside0.mk hg2; replace hat2:=Aside0.mk hat2))
       go_roundg (o.length - (k + 1))
       case measure => omega
       case rel => exact ⟨k + 1,_,rfl,by rw [HK.out,hm.1],by first | rfl | (rw [hwk]),by omega,hB2,⟨by rw [HK.out,hm.2]; exact hN2.out⟩,⟨Kd.N_after O3.out hg2.out hat2.out⟩⟩
    ·have hdk : decide ((k : Int) < (o.length : Int)) = false:=decide_eq_false (by omega)
     have hall : o.take k = o:=List.take_of_length_le (by omega)
     rw [hall] at M2 ⊢
     have hsz : Aside0 ((nextV x o).length ≤ l.length + 1):=⟨Nat.le_trans (next_len _ _) (by have:=hol.out; omega)⟩
     have hen:=next_end (x:=x) (o:=o)
     have okx : Aside0 (∀ k,k < w.heap.size → True ∧ some k ≠ u.ownBlock):=⟨fun k hk => ⟨trivial,fun e => absurd (Kd.N_base M2.out k e.symm) (by omega)⟩⟩
     have r0:=pw_cell_below B2.out q0.out
     have r1:=pw_cell_below B2.out q1.out
     have r2:=pw_cell_below B2.out q2.out
     have r3:=pw_cell_below B2.out q3.out
     obtain ⟨D,hD⟩ : ∃ D,doneV x o = D:=⟨_,rfl⟩
     rw [hD] at hen ⊢
     replace hen:=Aside0.mk hen
     clear hD hall
     cases D with
     | true =>
      go_wp2
      go_roundg (l.length - (i + 1))
      case measure => omega
      case rel => exact ⟨i + 1,_,rfl,by first | rfl | (rw [hwi]),by omega,B2,⟨by rw [hsm.out,hen.out]; simpa using M2.out⟩⟩
     | false =>
      go_wp2_with (((with_reducible refine gate_builtin (b:=.append) (xs:=#[.tmp 51,.tmp 56]) rfl ?_); at_builtin; refine Kd.N_append k41 (w0:=w) w.heap.size rfl (.tmp 51) (.tmp 56) 22 41 (.agg #[(.string ⟨#[]⟩),(.int .i64 0),(.slice none 0 0),(.string ⟨#[]⟩)]) 64 rfl Tryz.underlying22 info41 rfl (by decide) (by omega) u (nextV x o) x [.string x.f0,.int .i64 x.f1,.slice X x.f2.length d,.string x.f3] (fun _ => True) (fun k => k < w.heap.size) rfl rfl ?aP ?aK (fun _ _ => trivial) ?aO ?aB ?aS ?aL ?_; (case aP => exact hFK.out _ B2.out); (case aK => exact okx.out); (case aO => exact M2.out); (case aB => exact B2.out); (case aS => exact (B2.out).size); (case aL => have:=hsz.out; have:=HN.out; first | omega | (rw [List.length_append,List.length_singleton]; omega)); intro v1 y1 hN1 hB1 hg1 hat1; replace hN1:=Aside0.mk hN1; replace hB1:=Aside0.mk hB1; replace hg1:=Aside0.mk hg1; replace hat1:=Aside0.mk hat1))
      go_roundg (l.length - (i + 1))
      case measure => omega
      case rel => exact ⟨i + 1,_,rfl,by first | rfl | (rw [hwi]),by omega,hB1,⟨by rw [hsm.out,hen.out]; simpa using hN1.out⟩⟩
  ·have hdb : decide ((i : Int) < (l.length : Int)) = false:=decide_eq_false (by omega)
   have hall : Aside0 (l.take i = l):=⟨List.take_of_length_le (by omega)⟩
   go_wp2
   go_ret
   exact ⟨_,rfl,by have:=N1.out; rwa [hall.out] at this,B1.out⟩
theorem entF {W : World} {ok : Nat → Prop} {g : Nat} {t : TypeId} {fr : Nat × Nat} {x : S41} {X : Option Addr} {c : Nat} (hh : W.heap[g]? = some (.cells #[.string x.f0,.int .i64 x.f1,.slice X x.f2.length c,.string x.f3] t fr)) (hg : ok g) (hX : Kd.F Kd.string W ok X x.f2.length x.f2) (hc : x.f2.length ≤ c) : Kd.F k41 W ok (some ⟨g,0,none⟩) 1 [x] :=
 fun W' hW => entC ((hW g hg (blk_lt hh)).trans hh) (hX W' hW) hc
theorem cutVW {S G : Nat → Value → World → Prop} {goal : Prop} (h : (∀ g v W,S g v W → G g v W) → goal) (h2 : ∀ g v W,S g v W → G g v W) : goal:=h h2
theorem wpAnyH_at' {P : Program} {md : Region.Mode} {ops : Array Oper} {Q : Exit → Act → World → Prop} {S : World → Prop} {fuel : Nat} {l l' : Array Bool} {a : Act} {w : World} (h : l = l') (hh : wpAnyH P md ops Q S fuel l' a w) : wpAnyH P md ops Q S fuel l a w:=h ▸ hh
structure PutI (u : World) (B : Nat) (x : S41) (o : List S41) (g : Nat) (v : Value) (W : World) : Prop where
 b : Below u.heap.size u W
 n : Kd.N k41 41 W B (fun _ => True) v o
 f : Kd.F k41 W (fun k => some k ≠ v.ownBlock) (some ⟨g,0,none⟩) 1 [x]
set_option maxHeartbeats 8000000 in
set_option maxRecDepth 1000000 in
theorem putR_at (l : List S41) (A : Option Addr) (c : Nat) (x : S41) (X : Option Addr) (d : Nat) (w : World) (hr : Kd.C k41 w A l.length l) (hc : l.length ≤ c) (hn : l.length ≤ 100000) (hX : Kd.string.C w X x.f2.length x.f2) (hd : x.f2.length ≤ d) :
  Calls Tryz.prog 62 #[.slice A l.length c,.agg #[.string x.f0,.int .i64 x.f1,.slice X x.f2.length d,.string x.f3]] w fun e w' => ∃ v,e = .returned v ∧ Kd.N k41 41 w' w.heap.size (fun _ => True) v (sortR (l.filter (outB x.f0) ++ [x])) ∧ Below w.heap.size w w':=by
 have hfl : Aside0 ((l.filter (outB x.f0)).length ≤ 100000):=⟨Nat.le_trans (List.length_filter_le _ _) hn⟩
 obtain ⟨fl,hfl2⟩ : ∃ fl,l.filter (outB x.f0) = fl:=⟨_,rfl⟩
 have hW:=fun U (h : Below w.heap.size w U) => withoutR_at l A c x.f0 U (Kd.C_below hr h) hc (by omega)
 rw [hfl2] at hW hfl ⊢
 replace hX:=Aside0.mk hX
 replace hd:=Aside0.mk hd
 clear hr hc hn hfl2
 go_enter Tryz.func62,Tryz.ntmps62
 go_upto_region 1 with (fail)
 obtain ⟨u,hu⟩ : ∃ u,w.alloc (.cells #[.string x.f0,.int .i64 x.f1,.slice X x.f2.length d,.string x.f3] 41) = u:=⟨_,rfl⟩
 have hbu : Below w.heap.size w u:=by rw [← hu]; exact below_alloc (Below.refl _ _) _
 have hxu : u.heap[w.heap.size]? = some (.cells #[.string x.f0,.int .i64 x.f1,.slice X x.f2.length d,.string x.f3] 41 (0,0)):=by rw [← hu]; exact blk_new _ _
 obtain ⟨c0,c1,c2,c3⟩:=cells4 hxu
 have hsz : w.heap.size ≤ u.heap.size:=hbu.size
 rw [hu]
 clear hu
 replace c0:=Aside0.mk c0
 replace c1:=Aside0.mk c1
 replace c2:=Aside0.mk c2
 replace c3:=Aside0.mk c3
 replace hW:=Aside0.mk hW
 have hXu:=Aside0.mk (Kd.F_below (Kd.C_F Kd.heap_string hX.out) hbu)
 replace hbu:=Aside0.mk hbu
 clear hxu
 refine wp_region_held_drew (S:=fun W => Below u.heap.size u W) (by kernel_rfl) (below_drew (Below.refl _ _)) (fun _ => ?_)
 apply cutVW (S:=PutI u u.heap.size x fl)
 intro t0
 ·have hS : Below u.heap.size u (World.drew u):=below_drew (Below.refl _ _)
  generalize World.drew u = W at hS ⊢
  refine' tkE 0 5 hS ?_ ?_; rotate_left
  ·intro W' hSW; go_simp; (try with_reducible rfl)
  refine' tkE 1 6 hS ?_ ?_; rotate_left
  ·intro W' hSW; go_simp; (try with_reducible rfl)
  refine' tkE 2 7 hS ?_ ?_; rotate_left
  ·intro W' hSW; have q0:=pw_cell_below hSW c0.out; have q1:=pw_cell_below hSW c1.out; have q2:=pw_cell_below hSW c2.out; have q3:=pw_cell_below hSW c3.out; go_simp; (try with_reducible rfl)
  refine' tkE 4 9 hS ?_ ?_; rotate_left
  ·intro W' hSW; have q0:=pw_cell_below hSW c0.out; have q1:=pw_cell_below hSW c1.out; have q2:=pw_cell_below hSW c2.out; have q3:=pw_cell_below hSW c3.out; go_simp; (try with_reducible rfl)
  simp only [Act.put,List.setIfInBounds_toArray,List.set_cons_zero,List.set_cons_succ]
  refine wpAnyH_ready (rs:=[3,5]) (by kernel_rfl) (by simp) (AllReadyH.cons rfl (fun K hK => ?_) (AllReadyH.cons rfl (fun K hK => ?_) AllReadyH.nil))
  ·go_simp
   refine (hW.out _ (hbu.out.trans (hS.mono hbu.out.size))).mono ?_
   rintro e W2 ⟨v,rfl,hN,hb⟩
   have hN2:=Kd.N_lower hN (show u.heap.size ≤ W.heap.size from hS.size)
   replace hS:=hS.trans (hb.mono hS.size)
   refine hK.out _ _ hS (fun _ => ?_)
   clear hK K hN hb
   refine wpAnyH_ready (rs:=[5]) (by kernel_rfl) (by simp) (AllReadyH.cons rfl (fun K hK => ?_) AllReadyH.nil)
   go_simp
   have hP : PutI u u.heap.size x fl W2.heap.size v (W2.alloc (.cells #[.string x.f0,.int .i64 x.f1,.slice X x.f2.length d,.string x.f3] 41)):=⟨hS.alloc hS.size _,Kd.N_alloc hN2 _,entF (blk_new _ _) (fun e => by have:=Kd.N_lt hN2 _ e.symm; omega) (Kd.F_mono (Kd.F_alloc (Kd.F_below hXu.out hS) _) (fun k hk e => by have:=Kd.N_base hN2 _ e.symm; omega)) hd.out⟩
   replace hS:=hS.alloc hS.size (.cells #[.string x.f0,.int .i64 x.f1,.slice X x.f2.length d,.string x.f3] 41)
   refine hK.out _ _ hS (fun _ => ?_)
   clear hK K
   generalize W2.heap.size = g at hP ⊢
   generalize W2.alloc (.cells #[.string x.f0,.int .i64 x.f1,.slice X x.f2.length d,.string x.f3] 41) = W3 at hP hS ⊢
   exact wpAnyH_at' (l':=#[true,true,true,true,true,true,false,false,false]) (by kernel_rfl) (t0 g _ _ hP)
  ·go_simp
   have hbx : w.heap.size ≤ W.heap.size ∧ (W.alloc (.cells #[.string x.f0,.int .i64 x.f1,.slice X x.f2.length d,.string x.f3] 41)).heap[W.heap.size]? = some (.cells #[.string x.f0,.int .i64 x.f1,.slice X x.f2.length d,.string x.f3] 41 (0,0)):=⟨Nat.le_trans hsz hS.size,blk_new _ _⟩
   replace hS:=hS.alloc hS.size (.cells #[.string x.f0,.int .i64 x.f1,.slice X x.f2.length d,.string x.f3] 41)
   refine hK.out _ _ hS (fun _ => ?_)
   clear hK K
   generalize W.heap.size = g at hbx ⊢
   generalize W.alloc (.cells #[.string x.f0,.int .i64 x.f1,.slice X x.f2.length d,.string x.f3] 41) = W at hbx hS ⊢
   refine wpAnyH_ready (rs:=[3]) (by kernel_rfl) (by simp) (AllReadyH.cons rfl (fun K hK => ?_) AllReadyH.nil)
   go_simp
   refine (hW.out _ (hbu.out.trans (hS.mono hbu.out.size))).mono ?_
   rintro e W2 ⟨v,rfl,hN,hb⟩
   have hne : ∀ k,v.ownBlock = some k → W.heap.size ≤ k:=Kd.N_base hN
   have hgl:=blk_lt hbx.2
   have hP : PutI u u.heap.size x fl g v W2:=⟨hS.trans (hb.mono hS.size),Kd.N_lower hN (by have:=hS.size; omega),entF (blk_below hbx.2 hb) (fun e => by have:=hne _ e.symm; omega) (Kd.F_mono (Kd.F_below (Kd.F_below hXu.out hS) hb) (fun k hk e => by have:=hne _ e.symm; omega)) hd.out⟩
   replace hS:=hS.trans (hb.mono hS.size)
   refine hK.out _ _ hS (fun _ => ?_)
   clear hK K
   exact wpAnyH_at' (l':=#[true,true,true,true,true,true,false,false,false]) (by kernel_rfl) (t0 g _ _ hP)
 ·intro g v W hP
  have hS:=hP.b
  obtain ⟨Av,cv,rfl⟩:=Kd.N_slice hP.n
  refine wpAnyH_ready (rs:=[6]) (by kernel_rfl) (by simp) (AllReadyH.cons rfl (fun K hK => ?_) AllReadyH.nil)
  refine Kd.N_append_rows_step k41 (w0:=u) u.heap.size rfl (.tmp 8) (.tmp 10) 22 41 (.agg #[(.string ⟨#[]⟩),(.int .i64 0),(.slice none 0 0),(.string ⟨#[]⟩)]) 64 rfl Tryz.underlying22 info41 rfl (by decide) (by omega) (.slice Av fl.length cv) fl [x] (some ⟨g,0,none⟩) 1 1 (fun _ => True) (fun k => some k ≠ (Value.slice Av fl.length cv).ownBlock) rfl rfl hP.n hP.f (fun k hk => ⟨trivial,hk⟩) (fun _ _ => trivial) hS hS.size (by have:=hfl.out; omega) ?_
  intro v1 y1 hN1 hB1 _ _
  obtain ⟨al,hal⟩ : ∃ al,fl ++ [x] = al:=⟨_,rfl⟩
  rw [hal] at hN1
  have hall : Aside0 (al.length ≤ 200000):=⟨by have:=hfl.out; rw [← hal,List.length_append,List.length_singleton]; omega⟩
  replace hal:=Aside0.mk hal
  refine hK.out _ _ hB1 (fun _ => ?_)
  clear hK K hP hS
  obtain ⟨A1,d1,rfl,hd1,hC1⟩:=Kd.N_reads hN1
  refine wpAnyH_ready (rs:=[7]) (by kernel_rfl) (by simp) (AllReadyH.cons rfl (fun K hK => ?_) AllReadyH.nil)
  go_simp
  refine (sortedR_at al A1 d1 y1 hC1 hd1 (by have:=hall.out; omega)).mono ?_
  rintro e y2 ⟨v2,rfl,hN2,hb2⟩
  have hS : Below u.heap.size u y2:=hB1.trans (hb2.mono hB1.size)
  refine hK.out _ _ hS (fun _ => ?_)
  clear hK K
  refine' tkE 8 4 hS ?_ ?_; rotate_left
  ·intro W' hSW; go_simp; (try with_reducible rfl)
  simp only [Act.put,List.setIfInBounds_toArray,List.set_cons_zero,List.set_cons_succ]
  refine wpAnyH_done (by kernel_rfl) ?_ _
  go_wp2
  go_ret
  rw [hal.out]
  exact ⟨v2,rfl,Kd.N_lower hN2 (Nat.le_trans hsz hB1.size),hbu.out.trans (hS.mono hsz)⟩
open Go.Proofs.YthhohbidjhcjeaaGreatDoorW.PrintWords Go.Proofs.YthhohbidjhcjeaaGreatDoor.Q Go.Proofs.YthhohbidjhcjeaaGreatDoor.Pl
theorem out_iff (s : ByteArray) (x : S41) : outB s x = true ↔ x.f0 ≠ s:=by
 unfold outB
 rw [Bool.not_eq_true',beq_eq_false_iff_ne]
 exact ⟨fun h k => h (by rw [k]),fun h k => h (toList_inj k)⟩
theorem filter_erase : ∀ {l : List S41},Srt l → ∀ (i : Nat) (hi : i < l.length),l.filter (outB l[i].f0) = l.eraseIdx i
 | [],_,i,hi => absurd hi (Nat.not_lt_zero _)
 | x :: r,hs,0,_ => by
  have h:=(srt_cons.1 hs).1
  have hx : outB x.f0 x = false:=by
   rw [Bool.eq_false_iff]
   intro k
   exact (out_iff _ _).1 k rfl
  show (x :: r).filter (outB x.f0) = r
  rw [List.filter_cons,hx,if_neg (by decide),List.filter_eq_self]
  intro y hy
  exact (out_iff _ _).2 (ltP_ne (h y hy)).symm
 | x :: r,hs,i + 1,hi => by
  have h:=(srt_cons.1 hs).1
  have hi' : i < r.length:=by rw [List.length_cons] at hi; omega
  show (x :: r).filter (outB r[i].f0) = x :: r.eraseIdx i
  rw [List.filter_cons,(out_iff _ _).2 (ltP_ne (h _ (List.getElem_mem hi'))),if_pos rfl,filter_erase (srt_cons.1 hs).2 i hi']
theorem without_del {l : List S41} (hs : Srt l) {i : Nat} (hi : i < l.length) : l.filter (outB (l.getD i z41).f0) = delL l (l.getD i z41).f0:=by
 unfold delL
 rw [(low_at hs hi).1,getD_get hi]
 exact filter_erase hs i hi
theorem sortR_srt : ∀ (l : List S41),Srt l → sortR l = l:=by
 have key : ∀ (r o : List S41),Srt (o ++ r) → r.foldl (fun o x => insR x o) o = o ++ r:=by
  intro r
  induction r with
  | nil => intro o _; rw [List.append_nil]; rfl
  | cons x r ih =>
   intro o h
   rw [List.foldl_cons]
   have hd : doneV x o = false:=by
    unfold doneV
    rw [List.any_eq_false]
    intro y hy k
    have h2:=(srt_append.1 h).2.2 y hy x (List.mem_cons_self)
    rw [ltP_asymm h2] at k
    cases k
   rw [ins_no hd,ih (o ++ [x]) (by rw [List.append_assoc]; exact h),List.append_assoc]
   rfl
 intro l hs
 have:=key l [] hs
 simpa [sortR] using this
theorem insR_insL : ∀ {o : List S41} {x : S41},Srt o → (∀ y ∈ o,y.f0 ≠ x.f0) → insR x o = insL o x
 | [],x,_,_ => rfl
 | y :: r,x,hs,hx => by
  have h:=srt_cons.1 hs
  unfold insL insR
  by_cases hy : ltP x.f0 y.f0 = true
  ·rw [if_pos hy,lowB_zero (fun z hz => by
    rcases List.mem_cons.1 hz with e | hz
    ·rw [e]; exact ltP_asymm hy
    ·exact ltP_asymm (ltP_trans hy (h.1 z hz)))]
   rfl
  ·have hyx : ltP y.f0 x.f0 = true:=ltP_total (by rw [Bool.eq_false_iff]; exact hy) (fun e => hx y (List.mem_cons_self) e.symm)
   rw [if_neg hy,lowB_cons,if_pos hyx,insR_insL h.2 (fun z hz => hx z (List.mem_cons_of_mem _ hz))]
   rfl
theorem sortR_put {o : List S41} {x : S41} (hs : Srt o) (hx : ∀ y ∈ o,y.f0 ≠ x.f0) : sortR (o ++ [x]) = insL o x:=by
 unfold sortR
 rw [List.foldl_append]
 show insR x (sortR o) = _
 rw [sortR_srt o hs,insR_insL hs hx]
end Go.Proofs.YthhohbidjhcjeaaGreatDoor.H
