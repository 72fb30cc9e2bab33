/- The reference's Find, Parent, Right of paths and of lines, Apart: what they answer, asked at any world. -/
import Derived.Test.YthhohbidjhcjeaaGreatDoorBM1
import Derived.Test.YthhohbidjhcjeaaGreatDoorBM3
import Derived.Laws.RangeAny
import Derived.Test.YthhohbidjhcjeaaGreatDoorBM8
import Derived.Test.YthhohbidjhcjeaaGreatDoorBM5
namespace Go.Proofs.YthhohbidjhcjeaaGreatDoor.Q
open Go.RowKit Go.Proofs.YthhohbidjhcjeaaGreatDoorW.PrintWords Go.Proofs.YthhohbidjhcjeaaGreatDoorW.PrintLast Go.Proofs.YthhohbidjhcjeaaGreatDoorW.PrintMore
attribute [local go_sem] max2_int min2_int max_two min_two max_three min_three max_four min_four   -- for this text's walks alone
set_option linter.unusedVariables false
set_option linter.unusedSimpArgs false

/-! ### counterpaneref04_part: function 75 -/
mutual
def counterpaneref04_part.j0 : Nat → ByteArray → Bool → Option (Bool)
 | 0,_,_ => none
 | k + 1,x0,x20 => if x20 = true then (some false) else (counterpaneref04_part.l0 k x0 0)
def counterpaneref04_part.l0 : Nat → ByteArray → Int → Option (Bool)
 | 0,_,_ => none
 | k + 1,x0,x3 => if x3 < (x0.size : Int) then (if 0 ≤ x3 then (if (bt x0 x3) = 46 then (counterpaneref04_part.l0 k x0 (wrap64 (x3 + 1))) else (if (bt x0 x3) = 95 then (counterpaneref04_part.l0 k x0 (wrap64 (x3 + 1))) else (if (bt x0 x3) = 45 then (counterpaneref04_part.l0 k x0 (wrap64 (x3 + 1))) else (if (bt x0 x3) < 97 then (if (bt x0 x3) < 48 then (some false) else (if (bt x0 x3) > 57 then (some false) else (counterpaneref04_part.l0 k x0 (wrap64 (x3 + 1))))) else (if (bt x0 x3) > 122 then (if (bt x0 x3) < 48 then (some false) else (if (bt x0 x3) > 57 then (some false) else (counterpaneref04_part.l0 k x0 (wrap64 (x3 + 1))))) else (counterpaneref04_part.l0 k x0 (wrap64 (x3 + 1)))))))) else (none)) else (some true)
end
def counterpaneref04_part.f (k : Nat) (a0 : ByteArray) : Option (Bool):=if (a0.size : Int) < 1 then (counterpaneref04_part.j0 k a0 true) else (if (a0.size : Int) > 16 then (counterpaneref04_part.j0 k a0 true) else (if a0.toList = ([46] : List UInt8) then (counterpaneref04_part.j0 k a0 true) else (counterpaneref04_part.j0 k a0 (a0.toList == ([46,46] : List UInt8)))))
theorem counterpaneref04_part.mono_l : ∀ k,(∀ y0 y1,LeO (counterpaneref04_part.j0 k y0 y1) (counterpaneref04_part.j0 (k + 1) y0 y1)) ∧ (∀ y0 y1,LeO (counterpaneref04_part.l0 k y0 y1) (counterpaneref04_part.l0 (k + 1) y0 y1))
 | 0 => ⟨fun _ _ r h => by simp [counterpaneref04_part.j0] at h,fun _ _ r h => by simp [counterpaneref04_part.l0] at h⟩
 | k + 1 => by
  obtain ⟨ih0,ih1⟩:=counterpaneref04_part.mono_l k
  refine ⟨?_,?_⟩
  ·intro y0 y1
   unfold counterpaneref04_part.j0
   repeat' first
   | (with_reducible exact ih0 _ _)
   | (with_reducible exact ih1 _ _)
   | (with_reducible exact LeO.refl _)
   | (with_reducible exact LeO.none _)
   | (with_reducible refine LeO.ite ?_ ?_)
   | (with_reducible refine LeO.bind ?_ (fun _ => ?_))
   | exact ih0 _ _
   | exact ih1 _ _
   | exact LeO.none _
   | refine LeO.ite ?_ ?_
   | refine LeO.bind ?_ (fun _ => ?_)
  ·intro y0 y1
   unfold counterpaneref04_part.l0
   repeat' first
   | (with_reducible exact ih0 _ _)
   | (with_reducible exact ih1 _ _)
   | (with_reducible exact LeO.refl _)
   | (with_reducible exact LeO.none _)
   | (with_reducible refine LeO.ite ?_ ?_)
   | (with_reducible refine LeO.bind ?_ (fun _ => ?_))
   | exact ih0 _ _
   | exact ih1 _ _
   | exact LeO.none _
   | refine LeO.ite ?_ ?_
   | refine LeO.bind ?_ (fun _ => ?_)
theorem counterpaneref04_part.mono : ∀ a0 k,LeO (counterpaneref04_part.f k a0) (counterpaneref04_part.f (k + 1) a0):=by
 intro a0 k
 obtain ⟨ih0,ih1⟩:=counterpaneref04_part.mono_l k
 unfold counterpaneref04_part.f
 repeat' first
   | (with_reducible exact ih0 _ _)
   | (with_reducible exact ih1 _ _)
   | (with_reducible exact LeO.refl _)
   | (with_reducible exact LeO.none _)
   | (with_reducible refine LeO.ite ?_ ?_)
   | (with_reducible refine LeO.bind ?_ (fun _ => ?_))
   | exact ih0 _ _
   | exact ih1 _ _
   | exact LeO.none _
   | refine LeO.ite ?_ ?_
   | refine LeO.bind ?_ (fun _ => ?_)
set_option maxHeartbeats 8000000 in
set_option maxRecDepth 100000 in
theorem counterpaneref04_part.calls (k : Nat) (a0 : ByteArray) (r : Bool) (w : World) (h : counterpaneref04_part.f k a0 = some r) :
  Calls Tryz.prog 75 #[.string a0] w fun e w' => e = .returned (.bool r) ∧ Drawn0 w w':=by
 have H : (if (a0.size : Int) < 1 then (counterpaneref04_part.j0 k a0 true) else (if (a0.size : Int) > 16 then (counterpaneref04_part.j0 k a0 true) else (if a0.toList = ([46] : List UInt8) then (counterpaneref04_part.j0 k a0 true) else (counterpaneref04_part.j0 k a0 (a0.toList == ([46,46] : List UInt8)))))) = some r:=h
 clear h
 have HC2:=Aside0.mk H
 clear H
 go_enter Tryz.func75,Tryz.ntmps75
 go_upto_region 1 with (fail)
 go_cut [20] (fun v20 wc => ∃ (kq : Nat) (x20_1 : Bool),v20 = .bool x20_1 ∧ Aside0 (counterpaneref04_part.j0 kq a0 x20_1 = some r) ∧ Aside0 (kq ≤ k) ∧ Drawn0 w wc)
 case first =>
  have H:=HC2.out
  clear HC2
  by_cases c3 : (a0.size : Int) < 1
  ·rw [if_pos c3] at H
   have c3b0 : decide ((a0.size : Int) < 1) = true:=decide_eq_true c3
   have c3b1 : decide (a0.size < 1) = true:=decide_eq_true (by omega)
   clear c3
   (first | rw [c3b0] | (simp only [i64_w,i32_w]; rw [c3b0]) | skip)
   have H':=Aside0.mk H
   clear H
   go_wp2
   go_meet
   case rel => exact ⟨_,(true),(by first | rfl | (simp; done) | (simp [*]; done)),H',⟨by first | omega | exact Nat.le_refl _⟩,by repeat (first | exact Drawn0.refl _ | apply Drawn0.step)⟩
  ·rw [if_neg c3] at H
   have c3b0 : decide ((a0.size : Int) < 1) = false:=decide_eq_false c3
   have c3b1 : decide (a0.size < 1) = false:=decide_eq_false (by omega)
   clear c3
   (first | rw [c3b0] | (simp only [i64_w,i32_w]; rw [c3b0]) | skip)
   by_cases c4 : (a0.size : Int) > 16
   ·rw [if_pos c4] at H
    have c4b0 : decide (16 < (a0.size : Int)) = true:=decide_eq_true c4
    have c4b1 : decide (16 < a0.size) = true:=decide_eq_true (by omega)
    clear c4
    have H':=Aside0.mk H
    clear H
    go_wp2
    go_meet
    case rel => exact ⟨_,(true),(by first | rfl | (simp; done) | (simp [*]; done)),H',⟨by first | omega | exact Nat.le_refl _⟩,by repeat (first | exact Drawn0.refl _ | apply Drawn0.step)⟩
   ·rw [if_neg c4] at H
    have c4b0 : decide (16 < (a0.size : Int)) = false:=decide_eq_false c4
    have c4b1 : decide (16 < a0.size) = false:=decide_eq_false (by omega)
    clear c4
    by_cases c5 : a0.toList = ([46] : List UInt8)
    ·rw [if_pos c5] at H
     have c5b0 : (a0.toList == ([46] : List UInt8)) = true:=beq_iff_eq.mpr c5
     have c5b1 : (a0.toList != ([46] : List UInt8)) = false:=bne_eq_false_iff_eq.mpr c5
     clear c5
     have H':=Aside0.mk H
     clear H
     go_wp2
     go_meet
     case rel => exact ⟨_,(true),(by first | rfl | (simp; done) | (simp [*]; done)),H',⟨by first | omega | exact Nat.le_refl _⟩,by repeat (first | exact Drawn0.refl _ | apply Drawn0.step)⟩
    ·rw [if_neg c5] at H
     have c5b0 : (a0.toList == ([46] : List UInt8)) = false:=beq_eq_false_iff_ne.mpr c5
     have c5b1 : (a0.toList != ([46] : List UInt8)) = true:=bne_iff_ne.mpr c5
     have H':=Aside0.mk H
     clear H
     go_wp2
     go_meet
     case rel => exact ⟨_,((a0.toList == ([46,46] : List UInt8))),(by first | rfl | (simp; done) | (simp [*]; done)),H',⟨by first | omega | exact Nat.le_refl _⟩,by repeat (first | exact Drawn0.refl _ | apply Drawn0.step)⟩
 case rest =>
  clear HC2
  try clear p2
  try clear c3
  try clear c3b0
  try clear c3b1
  try clear c4
  try clear c4b0
  try clear c4b1
  try clear c5
  try clear c5b0
  try clear c5b1
  obtain ⟨kq,x20_1,rfl,HA,HJ1,⟨mc1,rfl⟩⟩:=hcut
  cases kq with
  | zero => exact absurd HA.out (by simp [counterpaneref04_part.j0])
  | succ kj1 =>
   have H:=HA.out
   clear HA
   simp only [counterpaneref04_part.j0] at H
   by_cases c6 : x20_1 = true
   ·subst c6
    have H1 : (some false) = some r:=by rw [if_pos rfl] at H; exact H
    clear H
    have H:=H1
    clear H1
    obtain rfl:=Option.some.inj H
    go_wp2
    go_ret
    exact ⟨by first | rfl | (simp; done) | (simp [*]; done) | (simp [show ∀ l : List UInt8,(l != []) = !l.isEmpty from fun l => by cases l <;> rfl]; done),by repeat (first | exact Drawn0.refl _ | apply Drawn0.step)⟩
   ·replace c6:=Bool.eq_false_iff.mpr c6
    subst c6
    have H1 : (counterpaneref04_part.l0 kj1 a0 0) = some r:=by rw [if_neg (show ¬ (false = true) by decide)] at H; exact H
    clear H
    have H:=H1
    clear H1
    have H':=Aside0.mk H
    clear H
    go_wp2
    go_loopg [3] kj1 (fun kq v3 w' => ∃ (x3_2 : Int),v3 = .int .i64 x3_2 ∧ Aside0 (counterpaneref04_part.l0 kq a0 x3_2 = some r) ∧ Aside0 (kq ≤ kj1) ∧ Drawn0 w w')
    case atStart => exact ⟨(0),(by first | rfl | (simp; done) | (simp [*]; done)),H',⟨Nat.le_refl _⟩,by repeat (first | exact Drawn0.refl _ | apply Drawn0.step)⟩
    case round =>
     clear H'
     try clear c1
     try clear p2
     try clear c3
     try clear c3b0
     try clear c3b1
     try clear c4
     try clear c4b0
     try clear c4b1
     try clear c5
     try clear c5b0
     try clear c5b1
     try clear c6
     try clear p2
     obtain ⟨x3_2,rfl,HA,HK2,⟨m2,rfl⟩⟩:=hrel
     cases gk with
     | zero => exact absurd HA.out (by simp [counterpaneref04_part.l0])
     | succ k2 =>
      have H:=HA.out
      clear HA
      simp only [counterpaneref04_part.l0] at H
      by_cases c7 : x3_2 < (a0.size : Int)
      ·rw [if_pos c7] at H
       have c7b0 : decide (x3_2 < (a0.size : Int)) = true:=decide_eq_true c7
       clear c7
       by_cases c8 : 0 ≤ x3_2
       ·rw [if_pos c8] at H
        have c8b0 : decide (0 ≤ x3_2) = true:=decide_eq_true c8
        clear c8
        by_cases c10 : (bt a0 x3_2) = 46
        ·rw [if_pos c10] at H
         have c10b0 : ((bt a0 x3_2) == 46) = true:=beq_iff_eq.mpr c10
         have c10b1 : ((bt a0 x3_2) != 46) = false:=bne_eq_false_iff_eq.mpr c10
         clear c10
         have H':=Aside0.mk H
         clear H
         have p9 : 0 ≤ (x3_2 : Int):=of_decide_eq_true (by first | (with_reducible assumption) | assumption)
         have q9 : x3_2 < (a0.size : Int):=of_decide_eq_true (by first | (with_reducible assumption) | assumption)
         have hx9:=bt_at a0 x3_2
         replace p9:=eq_true p9
         replace q9:=eq_true q9
         go_wp2
         go_roundg k2
         case measure => have:=HJ1.out; have:=HK2.out; omega
         case rel => exact ⟨(wrap64 (x3_2 + 1)),(by first | rfl | (simp; done) | (simp [*]; done)),H',⟨by have:=HJ1.out; have:=HK2.out; omega⟩,by repeat (first | exact Drawn0.refl _ | apply Drawn0.step)⟩
        ·rw [if_neg c10] at H
         have c10b0 : ((bt a0 x3_2) == 46) = false:=beq_eq_false_iff_ne.mpr c10
         have c10b1 : ((bt a0 x3_2) != 46) = true:=bne_iff_ne.mpr c10
         by_cases c11 : (bt a0 x3_2) = 95
         ·rw [if_pos c11] at H
          have c11b0 : ((bt a0 x3_2) == 95) = true:=beq_iff_eq.mpr c11
          have c11b1 : ((bt a0 x3_2) != 95) = false:=bne_eq_false_iff_eq.mpr c11
          clear c11
          have H':=Aside0.mk H
          clear H
          have p9 : 0 ≤ (x3_2 : Int):=of_decide_eq_true (by first | (with_reducible assumption) | assumption)
          have q9 : x3_2 < (a0.size : Int):=of_decide_eq_true (by first | (with_reducible assumption) | assumption)
          have hx9:=bt_at a0 x3_2
          replace p9:=eq_true p9
          replace q9:=eq_true q9
          go_wp2
          go_roundg k2
          case measure => have:=HJ1.out; have:=HK2.out; omega
          case rel => exact ⟨(wrap64 (x3_2 + 1)),(by first | rfl | (simp; done) | (simp [*]; done)),H',⟨by have:=HJ1.out; have:=HK2.out; omega⟩,by repeat (first | exact Drawn0.refl _ | apply Drawn0.step)⟩
         ·rw [if_neg c11] at H
          have c11b0 : ((bt a0 x3_2) == 95) = false:=beq_eq_false_iff_ne.mpr c11
          have c11b1 : ((bt a0 x3_2) != 95) = true:=bne_iff_ne.mpr c11
          by_cases c12 : (bt a0 x3_2) = 45
          ·rw [if_pos c12] at H
           have c12b0 : ((bt a0 x3_2) == 45) = true:=beq_iff_eq.mpr c12
           have c12b1 : ((bt a0 x3_2) != 45) = false:=bne_eq_false_iff_eq.mpr c12
           clear c12
           have H':=Aside0.mk H
           clear H
           have p9 : 0 ≤ (x3_2 : Int):=of_decide_eq_true (by first | (with_reducible assumption) | assumption)
           have q9 : x3_2 < (a0.size : Int):=of_decide_eq_true (by first | (with_reducible assumption) | assumption)
           have hx9:=bt_at a0 x3_2
           replace p9:=eq_true p9
           replace q9:=eq_true q9
           go_wp2
           go_roundg k2
           case measure => have:=HJ1.out; have:=HK2.out; omega
           case rel => exact ⟨(wrap64 (x3_2 + 1)),(by first | rfl | (simp; done) | (simp [*]; done)),H',⟨by have:=HJ1.out; have:=HK2.out; omega⟩,by repeat (first | exact Drawn0.refl _ | apply Drawn0.step)⟩
          ·rw [if_neg c12] at H
           have c12b0 : ((bt a0 x3_2) == 45) = false:=beq_eq_false_iff_ne.mpr c12
           have c12b1 : ((bt a0 x3_2) != 45) = true:=bne_iff_ne.mpr c12
           by_cases c13 : (bt a0 x3_2) < 97
           ·rw [if_pos c13] at H
            have c13b0 : decide ((bt a0 x3_2) < 97) = true:=decide_eq_true c13
            clear c13
            by_cases c14 : (bt a0 x3_2) < 48
            ·rw [if_pos c14] at H
             have c14b0 : decide ((bt a0 x3_2) < 48) = true:=decide_eq_true c14
             clear c14
             obtain rfl:=Option.some.inj H
             have p9 : 0 ≤ (x3_2 : Int):=of_decide_eq_true (by first | (with_reducible assumption) | assumption)
             have q9 : x3_2 < (a0.size : Int):=of_decide_eq_true (by first | (with_reducible assumption) | assumption)
             have hx9:=bt_at a0 x3_2
             replace p9:=eq_true p9
             replace q9:=eq_true q9
             go_wp2
             go_ret
             exact ⟨by first | rfl | (simp; done) | (simp [*]; done) | (simp [show ∀ l : List UInt8,(l != []) = !l.isEmpty from fun l => by cases l <;> rfl]; done),by repeat (first | exact Drawn0.refl _ | apply Drawn0.step)⟩
            ·rw [if_neg c14] at H
             have c14b0 : decide ((bt a0 x3_2) < 48) = false:=decide_eq_false c14
             clear c14
             by_cases c15 : (bt a0 x3_2) > 57
             ·rw [if_pos c15] at H
              have c15b0 : decide (57 < (bt a0 x3_2)) = true:=decide_eq_true c15
              clear c15
              obtain rfl:=Option.some.inj H
              have p9 : 0 ≤ (x3_2 : Int):=of_decide_eq_true (by first | (with_reducible assumption) | assumption)
              have q9 : x3_2 < (a0.size : Int):=of_decide_eq_true (by first | (with_reducible assumption) | assumption)
              have hx9:=bt_at a0 x3_2
              replace p9:=eq_true p9
              replace q9:=eq_true q9
              go_wp2
              go_ret
              exact ⟨by first | rfl | (simp; done) | (simp [*]; done) | (simp [show ∀ l : List UInt8,(l != []) = !l.isEmpty from fun l => by cases l <;> rfl]; done),by repeat (first | exact Drawn0.refl _ | apply Drawn0.step)⟩
             ·rw [if_neg c15] at H
              have c15b0 : decide (57 < (bt a0 x3_2)) = false:=decide_eq_false c15
              clear c15
              have H':=Aside0.mk H
              clear H
              have p9 : 0 ≤ (x3_2 : Int):=of_decide_eq_true (by first | (with_reducible assumption) | assumption)
              have q9 : x3_2 < (a0.size : Int):=of_decide_eq_true (by first | (with_reducible assumption) | assumption)
              have hx9:=bt_at a0 x3_2
              replace p9:=eq_true p9
              replace q9:=eq_true q9
              go_wp2
              go_roundg k2
              case measure => have:=HJ1.out; have:=HK2.out; omega
              case rel => exact ⟨(wrap64 (x3_2 + 1)),(by first | rfl | (simp; done) | (simp [*]; done)),H',⟨by have:=HJ1.out; have:=HK2.out; omega⟩,by repeat (first | exact Drawn0.refl _ | apply Drawn0.step)⟩
           ·rw [if_neg c13] at H
            have c13b0 : decide ((bt a0 x3_2) < 97) = false:=decide_eq_false c13
            clear c13
            by_cases c16 : (bt a0 x3_2) > 122
            ·rw [if_pos c16] at H
             have c16b0 : decide (122 < (bt a0 x3_2)) = true:=decide_eq_true c16
             clear c16
             by_cases c17 : (bt a0 x3_2) < 48
             ·rw [if_pos c17] at H
              have c17b0 : decide ((bt a0 x3_2) < 48) = true:=decide_eq_true c17
              clear c17
              obtain rfl:=Option.some.inj H
              have p9 : 0 ≤ (x3_2 : Int):=of_decide_eq_true (by first | (with_reducible assumption) | assumption)
              have q9 : x3_2 < (a0.size : Int):=of_decide_eq_true (by first | (with_reducible assumption) | assumption)
              have hx9:=bt_at a0 x3_2
              replace p9:=eq_true p9
              replace q9:=eq_true q9
              go_wp2
              go_ret
              exact ⟨by first | rfl | (simp; done) | (simp [*]; done) | (simp [show ∀ l : List UInt8,(l != []) = !l.isEmpty from fun l => by cases l <;> rfl]; done),by repeat (first | exact Drawn0.refl _ | apply Drawn0.step)⟩
             ·rw [if_neg c17] at H
              have c17b0 : decide ((bt a0 x3_2) < 48) = false:=decide_eq_false c17
              clear c17
              by_cases c18 : (bt a0 x3_2) > 57
              ·rw [if_pos c18] at H
               have c18b0 : decide (57 < (bt a0 x3_2)) = true:=decide_eq_true c18
               clear c18
               obtain rfl:=Option.some.inj H
               have p9 : 0 ≤ (x3_2 : Int):=of_decide_eq_true (by first | (with_reducible assumption) | assumption)
               have q9 : x3_2 < (a0.size : Int):=of_decide_eq_true (by first | (with_reducible assumption) | assumption)
               have hx9:=bt_at a0 x3_2
               replace p9:=eq_true p9
               replace q9:=eq_true q9
               go_wp2
               go_ret
               exact ⟨by first | rfl | (simp; done) | (simp [*]; done) | (simp [show ∀ l : List UInt8,(l != []) = !l.isEmpty from fun l => by cases l <;> rfl]; done),by repeat (first | exact Drawn0.refl _ | apply Drawn0.step)⟩
              ·rw [if_neg c18] at H
               have c18b0 : decide (57 < (bt a0 x3_2)) = false:=decide_eq_false c18
               clear c18
               have H':=Aside0.mk H
               clear H
               have p9 : 0 ≤ (x3_2 : Int):=of_decide_eq_true (by first | (with_reducible assumption) | assumption)
               have q9 : x3_2 < (a0.size : Int):=of_decide_eq_true (by first | (with_reducible assumption) | assumption)
               have hx9:=bt_at a0 x3_2
               replace p9:=eq_true p9
               replace q9:=eq_true q9
               go_wp2
               go_roundg k2
               case measure => have:=HJ1.out; have:=HK2.out; omega
               case rel => exact ⟨(wrap64 (x3_2 + 1)),(by first | rfl | (simp; done) | (simp [*]; done)),H',⟨by have:=HJ1.out; have:=HK2.out; omega⟩,by repeat (first | exact Drawn0.refl _ | apply Drawn0.step)⟩
            ·rw [if_neg c16] at H
             have c16b0 : decide (122 < (bt a0 x3_2)) = false:=decide_eq_false c16
             clear c16
             have H':=Aside0.mk H
             clear H
             have p9 : 0 ≤ (x3_2 : Int):=of_decide_eq_true (by first | (with_reducible assumption) | assumption)
             have q9 : x3_2 < (a0.size : Int):=of_decide_eq_true (by first | (with_reducible assumption) | assumption)
             have hx9:=bt_at a0 x3_2
             replace p9:=eq_true p9
             replace q9:=eq_true q9
             go_wp2
             go_roundg k2
             case measure => have:=HJ1.out; have:=HK2.out; omega
             case rel => exact ⟨(wrap64 (x3_2 + 1)),(by first | rfl | (simp; done) | (simp [*]; done)),H',⟨by have:=HJ1.out; have:=HK2.out; omega⟩,by repeat (first | exact Drawn0.refl _ | apply Drawn0.step)⟩
       ·rw [if_neg c8] at H
        exact absurd H (by simp)
      ·rw [if_neg c7] at H
       have c7b0 : decide (x3_2 < (a0.size : Int)) = false:=decide_eq_false c7
       clear c7
       obtain rfl:=Option.some.inj H
       go_wp2
       go_ret
       exact ⟨by first | rfl | (simp; done) | (simp [*]; done) | (simp [show ∀ l : List UInt8,(l != []) = !l.isEmpty from fun l => by cases l <;> rfl]; done),by repeat (first | exact Drawn0.refl _ | apply Drawn0.step)⟩

/-! ### counterpaneref04_Right: function 36 -/
mutual
def counterpaneref04_Right.l0 : Nat → ByteArray → Int → Int → Int → Option (Bool)
 | 0,_,_,_,_ => none
 | k + 1,x0,x3,x4,x5 => if x5 ≤ (x0.size : Int) then (if x5 < (x0.size : Int) then (if 0 ≤ x5 then (counterpaneref04_Right.j1 k x0 x3 x4 x5 ((bt x0 x5) != 47)) else (none)) else (counterpaneref04_Right.j1 k x0 x3 x4 x5 false)) else (some (decide (x3 ≤ 8)))
def counterpaneref04_Right.j1 : Nat → ByteArray → Int → Int → Int → Bool → Option (Bool)
 | 0,_,_,_,_,_ => none
 | k + 1,x0,x3,x4,x5,x21 => if x21 = true then (counterpaneref04_Right.l0 k x0 x3 x4 (wrap64 (x5 + 1))) else (if 0 ≤ x4 then (if x4 ≤ x5 then (if x5 ≤ (x0.size : Int) then ((counterpaneref04_part.f k (x0.extract (x4 : Int).toNat (x5 : Int).toNat)).bind fun t193 => (if t193 = true then (counterpaneref04_Right.l0 k x0 (wrap64 (x3 + 1)) (wrap64 (x5 + 1)) (wrap64 (x5 + 1))) else (some false))) else (none)) else (none)) else (none))
end
def counterpaneref04_Right.f (k : Nat) (a0 : ByteArray) : Option (Bool):=counterpaneref04_Right.l0 k a0 0 0 0
theorem counterpaneref04_Right.mono_l : ∀ k,(∀ y0 y1 y2 y3,LeO (counterpaneref04_Right.l0 k y0 y1 y2 y3) (counterpaneref04_Right.l0 (k + 1) y0 y1 y2 y3)) ∧ (∀ y0 y1 y2 y3 y4,LeO (counterpaneref04_Right.j1 k y0 y1 y2 y3 y4) (counterpaneref04_Right.j1 (k + 1) y0 y1 y2 y3 y4))
 | 0 => ⟨fun _ _ _ _ r h => by simp [counterpaneref04_Right.l0] at h,fun _ _ _ _ _ r h => by simp [counterpaneref04_Right.j1] at h⟩
 | k + 1 => by
  obtain ⟨ih0,ih1⟩:=counterpaneref04_Right.mono_l k
  refine ⟨?_,?_⟩
  ·intro y0 y1 y2 y3
   unfold counterpaneref04_Right.l0
   repeat' first
   | (with_reducible exact ih0 _ _ _ _)
   | (with_reducible exact ih1 _ _ _ _ _)
   | (with_reducible exact counterpaneref04_part.mono _ _)
   | (with_reducible exact LeO.refl _)
   | (with_reducible exact LeO.none _)
   | (with_reducible refine LeO.ite ?_ ?_)
   | (with_reducible refine LeO.bind ?_ (fun _ => ?_))
   | exact ih0 _ _ _ _
   | exact ih1 _ _ _ _ _
   | exact counterpaneref04_part.mono _ _
   | exact LeO.none _
   | refine LeO.ite ?_ ?_
   | refine LeO.bind ?_ (fun _ => ?_)
  ·intro y0 y1 y2 y3 y4
   unfold counterpaneref04_Right.j1
   repeat' first
   | (with_reducible exact ih0 _ _ _ _)
   | (with_reducible exact ih1 _ _ _ _ _)
   | (with_reducible exact counterpaneref04_part.mono _ _)
   | (with_reducible exact LeO.refl _)
   | (with_reducible exact LeO.none _)
   | (with_reducible refine LeO.ite ?_ ?_)
   | (with_reducible refine LeO.bind ?_ (fun _ => ?_))
   | exact ih0 _ _ _ _
   | exact ih1 _ _ _ _ _
   | exact counterpaneref04_part.mono _ _
   | exact LeO.none _
   | refine LeO.ite ?_ ?_
   | refine LeO.bind ?_ (fun _ => ?_)
theorem counterpaneref04_Right.mono : ∀ a0 k,LeO (counterpaneref04_Right.f k a0) (counterpaneref04_Right.f (k + 1) a0):=by
 intro a0 k
 obtain ⟨ih0,ih1⟩:=counterpaneref04_Right.mono_l k
 unfold counterpaneref04_Right.f
 repeat' first
   | (with_reducible exact ih0 _ _ _ _)
   | (with_reducible exact ih1 _ _ _ _ _)
   | (with_reducible exact counterpaneref04_part.mono _ _)
   | (with_reducible exact LeO.refl _)
   | (with_reducible exact LeO.none _)
   | (with_reducible refine LeO.ite ?_ ?_)
   | (with_reducible refine LeO.bind ?_ (fun _ => ?_))
   | exact ih0 _ _ _ _
   | exact ih1 _ _ _ _ _
   | exact counterpaneref04_part.mono _ _
   | exact LeO.none _
   | refine LeO.ite ?_ ?_
   | refine LeO.bind ?_ (fun _ => ?_)
set_option maxHeartbeats 8000000 in
set_option maxRecDepth 100000 in
theorem counterpaneref04_Right.calls (k : Nat) (a0 : ByteArray) (r : Bool) (w : World) (h : counterpaneref04_Right.f k a0 = some r) :
  Calls Tryz.prog 36 #[.string a0] w fun e w' => e = .returned (.bool r) ∧ Drawn0 w w':=by
 have H : (counterpaneref04_Right.l0 k a0 0 0 0) = some r:=h
 clear h
 have H':=Aside0.mk H
 clear H
 go_enter Tryz.func36,Tryz.ntmps36
 go_wp2
 go_loopg [3,4,5] k (fun kq v3 v4 v5 w' => ∃ (x3_1 : Int) (x4_1 : Int) (x5_1 : Int),v3 = .int .i64 x3_1 ∧ v4 = .int .i64 x4_1 ∧ v5 = .int .i64 x5_1 ∧ Aside0 (counterpaneref04_Right.l0 kq a0 x3_1 x4_1 x5_1 = some r) ∧ Aside0 (kq ≤ k) ∧ Drawn0 w w')
 case atStart => exact ⟨(0),(0),(0),(by first | rfl | (simp; done) | (simp [*]; done)),(by first | rfl | (simp; done) | (simp [*]; done)),(by first | rfl | (simp; done) | (simp [*]; done)),H',⟨Nat.le_refl _⟩,by repeat (first | exact Drawn0.refl _ | apply Drawn0.step)⟩
 case round =>
  clear H'
  obtain ⟨x3_1,x4_1,x5_1,rfl,rfl,rfl,HA,HK1,⟨m1,rfl⟩⟩:=hrel
  cases gk with
  | zero => exact absurd HA.out (by simp [counterpaneref04_Right.l0])
  | succ k1 =>
   have H:=HA.out
   clear HA
   simp only [counterpaneref04_Right.l0] at H
   by_cases c2 : x5_1 ≤ (a0.size : Int)
   ·rw [if_pos c2] at H
    have c2b0 : decide (x5_1 ≤ (a0.size : Int)) = true:=decide_eq_true c2
    clear c2
    have HC3:=Aside0.mk H
    clear H
    go_upto_region 6 with (fail)
    go_cut [21] (fun v21 wc => ∃ (kq : Nat) (x21_2 : Bool),v21 = .bool x21_2 ∧ Aside0 (counterpaneref04_Right.j1 kq a0 x3_1 x4_1 x5_1 x21_2 = some r) ∧ Aside0 (kq ≤ k1) ∧ Drawn0 w wc)
    case first =>
     have H:=HC3.out
     clear HC3
     by_cases c4 : x5_1 < (a0.size : Int)
     ·rw [if_pos c4] at H
      have c4b0 : decide (x5_1 < (a0.size : Int)) = true:=decide_eq_true c4
      clear c4
      (first | rw [c4b0] | (simp only [i64_w,i32_w]; rw [c4b0]) | skip)
      by_cases c5 : 0 ≤ x5_1
      ·rw [if_pos c5] at H
       have c5b0 : decide (0 ≤ x5_1) = true:=decide_eq_true c5
       clear c5
       have H':=Aside0.mk H
       clear H
       have p6 : 0 ≤ (x5_1 : Int):=of_decide_eq_true (by first | (with_reducible assumption) | assumption)
       have q6 : x5_1 < (a0.size : Int):=of_decide_eq_true (by first | (with_reducible assumption) | assumption)
       have hx6:=bt_at a0 x5_1
       replace p6:=eq_true p6
       replace q6:=eq_true q6
       go_wp2
       go_meet
       case rel => exact ⟨_,(((bt a0 x5_1) != 47)),(by first | rfl | (simp; done) | (simp [*]; done)),H',⟨by have:=HK1.out; first | omega | exact Nat.le_refl _⟩,by repeat (first | exact Drawn0.refl _ | apply Drawn0.step)⟩
      ·rw [if_neg c5] at H
       exact absurd H (by simp)
     ·rw [if_neg c4] at H
      have c4b0 : decide (x5_1 < (a0.size : Int)) = false:=decide_eq_false c4
      clear c4
      (first | rw [c4b0] | (simp only [i64_w,i32_w]; rw [c4b0]) | skip)
      have H':=Aside0.mk H
      clear H
      go_wp2
      go_meet
      case rel => exact ⟨_,(false),(by first | rfl | (simp; done) | (simp [*]; done)),H',⟨by have:=HK1.out; first | omega | exact Nat.le_refl _⟩,by repeat (first | exact Drawn0.refl _ | apply Drawn0.step)⟩
    case rest =>
     clear HC3
     try clear c2
     try clear c2b0
     try clear p2
     try clear c3
     try clear c4
     try clear c4b0
     try clear c5
     try clear c5b0
     try clear p6
     try clear q6
     try clear hx6
     try clear p6
     try clear q6
     obtain ⟨kq,x21_2,rfl,HA,HJ2,⟨mc2,rfl⟩⟩:=hcut
     cases kq with
     | zero => exact absurd HA.out (by simp [counterpaneref04_Right.j1])
     | succ kj2 =>
      have H:=HA.out
      clear HA
      simp only [counterpaneref04_Right.j1] at H
      by_cases c7 : x21_2 = true
      ·subst c7
       have H1 : (counterpaneref04_Right.l0 kj2 a0 x3_1 x4_1 (wrap64 (x5_1 + 1))) = some r:=by rw [if_pos rfl] at H; exact H
       clear H
       have H:=H1
       clear H1
       have H':=Aside0.mk H
       clear H
       go_wp2
       go_roundg kj2
       case measure => have:=HK1.out; have:=HJ2.out; omega
       case rel => exact ⟨(x3_1),(x4_1),(wrap64 (x5_1 + 1)),(by first | rfl | (simp; done) | (simp [*]; done)),(by first | rfl | (simp; done) | (simp [*]; done)),(by first | rfl | (simp; done) | (simp [*]; done)),H',⟨by have:=HK1.out; have:=HJ2.out; omega⟩,by repeat (first | exact Drawn0.refl _ | apply Drawn0.step)⟩
      ·replace c7:=Bool.eq_false_iff.mpr c7
       subst c7
       have H1 : (if 0 ≤ x4_1 then (if x4_1 ≤ x5_1 then (if x5_1 ≤ (a0.size : Int) then ((counterpaneref04_part.f kj2 (a0.extract (x4_1 : Int).toNat (x5_1 : Int).toNat)).bind fun t193 => (if t193 = true then (counterpaneref04_Right.l0 kj2 a0 (wrap64 (x3_1 + 1)) (wrap64 (x5_1 + 1)) (wrap64 (x5_1 + 1))) else (some false))) else (none)) else (none)) else (none)) = some r:=by rw [if_neg (show ¬ (false = true) by decide)] at H; exact H
       clear H
       have H:=H1
       clear H1
       by_cases c8 : 0 ≤ x4_1
       ·rw [if_pos c8] at H
        have c8b0:=eq_true c8
        have c8b1 : decide (0 ≤ x4_1) = true:=decide_eq_true c8
        clear c8
        by_cases c9 : x4_1 ≤ x5_1
        ·rw [if_pos c9] at H
         have c9b0:=eq_true c9
         have c9b1 : decide (x4_1 ≤ x5_1) = true:=decide_eq_true c9
         clear c9
         by_cases c10 : x5_1 ≤ (a0.size : Int)
         ·rw [if_pos c10] at H
          have c10b0:=eq_true c10
          have c10b1 : decide (x5_1 ≤ (a0.size : Int)) = true:=decide_eq_true c10
          clear c10
          replace H:=Option.bind_eq_some_iff.mp H
          obtain ⟨t193,A110,H⟩:=H
          replace H : (if t193 = true then (counterpaneref04_Right.l0 kj2 a0 (wrap64 (x3_1 + 1)) (wrap64 (x5_1 + 1)) (wrap64 (x5_1 + 1))) else (some false)) = some r:=H
          have A11:=Aside0.mk A110
          clear A110
          by_cases c12 : t193 = true
          ·subst c12
           have H1 : (counterpaneref04_Right.l0 kj2 a0 (wrap64 (x3_1 + 1)) (wrap64 (x5_1 + 1)) (wrap64 (x5_1 + 1))) = some r:=by rw [if_pos rfl] at H; exact H
           clear H
           have H:=H1
           clear H1
           have H':=Aside0.mk H
           clear H
           go_wp2_with (first | ((with_reducible refine gate_callee (f:=75) rfl ?_); refine goesL_ (some 26) rfl rfl Tryz.func75 (by kernel_rfl) rfl #[.string (a0.extract (x4_1 : Int).toNat (x5_1 : Int).toNat)] rfl (by (try simp only [List.map_toArray,List.map_cons,List.map_nil]); first | done | rfl | (simp only [List.length_drop,List.length_take]; rfl)) ?_; (with_reducible refine (counterpaneref04_part.calls kj2 (a0.extract (x4_1 : Int).toNat (x5_1 : Int).toNat) true _ A11.out).mono ?_); rintro e w' ⟨rfl,⟨nd,rfl⟩⟩; refine ⟨_,rfl,?_⟩))
           go_roundg kj2
           case measure => have:=HK1.out; have:=HJ2.out; omega
           case rel => exact ⟨(wrap64 (x3_1 + 1)),(wrap64 (x5_1 + 1)),(wrap64 (x5_1 + 1)),(by first | rfl | (simp; done) | (simp [*]; done)),(by first | rfl | (simp; done) | (simp [*]; done)),(by first | rfl | (simp; done) | (simp [*]; done)),H',⟨by have:=HK1.out; have:=HJ2.out; omega⟩,by repeat (first | exact Drawn0.refl _ | apply Drawn0.step)⟩
          ·replace c12:=Bool.eq_false_iff.mpr c12
           subst c12
           have H1 : (some false) = some r:=by rw [if_neg (show ¬ (false = true) by decide)] at H; exact H
           clear H
           have H:=H1
           clear H1
           obtain rfl:=Option.some.inj H
           go_wp2_with (first | ((with_reducible refine gate_callee (f:=75) rfl ?_); refine goesL_ (some 26) rfl rfl Tryz.func75 (by kernel_rfl) rfl #[.string (a0.extract (x4_1 : Int).toNat (x5_1 : Int).toNat)] rfl (by (try simp only [List.map_toArray,List.map_cons,List.map_nil]); first | done | rfl | (simp only [List.length_drop,List.length_take]; rfl)) ?_; (with_reducible refine (counterpaneref04_part.calls kj2 (a0.extract (x4_1 : Int).toNat (x5_1 : Int).toNat) false _ A11.out).mono ?_); rintro e w' ⟨rfl,⟨nd,rfl⟩⟩; refine ⟨_,rfl,?_⟩))
           go_ret
           exact ⟨by first | rfl | (simp; done) | (simp [*]; done) | (simp [show ∀ l : List UInt8,(l != []) = !l.isEmpty from fun l => by cases l <;> rfl]; done),by repeat (first | exact Drawn0.refl _ | apply Drawn0.step)⟩
         ·rw [if_neg c10] at H
          exact absurd H (by simp)
        ·rw [if_neg c9] at H
         exact absurd H (by simp)
       ·rw [if_neg c8] at H
        exact absurd H (by simp)
   ·rw [if_neg c2] at H
    have c2b0 : decide (x5_1 ≤ (a0.size : Int)) = false:=decide_eq_false c2
    clear c2
    obtain rfl:=Option.some.inj H
    go_wp2
    go_ret
    exact ⟨by first | rfl | (simp; done) | (simp [*]; done) | (simp [show ∀ l : List UInt8,(l != []) = !l.isEmpty from fun l => by cases l <;> rfl]; done),by repeat (first | exact Drawn0.refl _ | apply Drawn0.step)⟩

/-! ### counterpaneref05_Right: function 70 -/
mutual
def counterpaneref05_Right.l0 : Nat → List ByteArray → Int → Option (Bool)
 | 0,_,_ => none
 | k + 1,x0,x3 => if x3 < (x0.length : Int) then (counterpaneref05_Right.l1 k x0 x3 0) else (some true)
def counterpaneref05_Right.l1 : Nat → List ByteArray → Int → Int → Option (Bool)
 | 0,_,_,_ => none
 | k + 1,x0,x3,x4 => if 0 ≤ x3 then (if x3 < (x0.length : Int) then (if x4 < ((rdOf ByteArray.empty x0 x3).size : Int) then (if 0 ≤ x4 then (if (bt (rdOf ByteArray.empty x0 x3) x4) = 10 then (some false) else (counterpaneref05_Right.l1 k x0 x3 (wrap64 (x4 + 1)))) else (none)) else (counterpaneref05_Right.l0 k x0 (wrap64 (x3 + 1)))) else (none)) else (none)
end
def counterpaneref05_Right.f (k : Nat) (l0 : List ByteArray) : Option (Bool):=counterpaneref05_Right.l0 k l0 0
theorem counterpaneref05_Right.mono_l : ∀ k,(∀ y0 y1,LeO (counterpaneref05_Right.l0 k y0 y1) (counterpaneref05_Right.l0 (k + 1) y0 y1)) ∧ (∀ y0 y1 y2,LeO (counterpaneref05_Right.l1 k y0 y1 y2) (counterpaneref05_Right.l1 (k + 1) y0 y1 y2))
 | 0 => ⟨fun _ _ r h => by simp [counterpaneref05_Right.l0] at h,fun _ _ _ r h => by simp [counterpaneref05_Right.l1] at h⟩
 | k + 1 => by
  obtain ⟨ih0,ih1⟩:=counterpaneref05_Right.mono_l k
  refine ⟨?_,?_⟩
  ·intro y0 y1
   unfold counterpaneref05_Right.l0
   repeat' first
   | (with_reducible exact ih0 _ _)
   | (with_reducible exact ih1 _ _ _)
   | (with_reducible exact LeO.refl _)
   | (with_reducible exact LeO.none _)
   | (with_reducible refine LeO.ite ?_ ?_)
   | (with_reducible refine LeO.bind ?_ (fun _ => ?_))
   | exact ih0 _ _
   | exact ih1 _ _ _
   | exact LeO.none _
   | refine LeO.ite ?_ ?_
   | refine LeO.bind ?_ (fun _ => ?_)
  ·intro y0 y1 y2
   unfold counterpaneref05_Right.l1
   repeat' first
   | (with_reducible exact ih0 _ _)
   | (with_reducible exact ih1 _ _ _)
   | (with_reducible exact LeO.refl _)
   | (with_reducible exact LeO.none _)
   | (with_reducible refine LeO.ite ?_ ?_)
   | (with_reducible refine LeO.bind ?_ (fun _ => ?_))
   | exact ih0 _ _
   | exact ih1 _ _ _
   | exact LeO.none _
   | refine LeO.ite ?_ ?_
   | refine LeO.bind ?_ (fun _ => ?_)
theorem counterpaneref05_Right.mono : ∀ a0 k,LeO (counterpaneref05_Right.f k a0) (counterpaneref05_Right.f (k + 1) a0):=by
 intro a0 k
 obtain ⟨ih0,ih1⟩:=counterpaneref05_Right.mono_l k
 unfold counterpaneref05_Right.f
 repeat' first
   | (with_reducible exact ih0 _ _)
   | (with_reducible exact ih1 _ _ _)
   | (with_reducible exact LeO.refl _)
   | (with_reducible exact LeO.none _)
   | (with_reducible refine LeO.ite ?_ ?_)
   | (with_reducible refine LeO.bind ?_ (fun _ => ?_))
   | exact ih0 _ _
   | exact ih1 _ _ _
   | exact LeO.none _
   | refine LeO.ite ?_ ?_
   | refine LeO.bind ?_ (fun _ => ?_)
set_option maxHeartbeats 8000000 in
set_option maxRecDepth 100000 in
theorem counterpaneref05_Right.calls (k : Nat) (A0 : Option Addr) (c0 : Nat) (l0 : List ByteArray) (r : Bool) (w : World) (hr0 : Kd.C Kd.string w A0 l0.length l0) (hc0 : l0.length ≤ c0) (h : counterpaneref05_Right.f k l0 = some r) :
  Calls Tryz.prog 70 #[.slice A0 l0.length c0] w fun e w' => e = .returned (.bool r) ∧ Drawn0 w w':=by
 have HR0:=Aside0.mk hr0
 have HC0:=Aside0.mk hc0
 clear hr0 hc0
 have H : (counterpaneref05_Right.l0 k l0 0) = some r:=h
 clear h
 have H':=Aside0.mk H
 clear H
 go_enter Tryz.func70,Tryz.ntmps70
 go_wp2
 go_loopg [3] k (fun kq v3 w' => ∃ (x3_1 : Int),v3 = .int .i64 x3_1 ∧ Aside0 (counterpaneref05_Right.l0 kq l0 x3_1 = some r) ∧ Aside0 (kq ≤ k) ∧ Drawn0 w w')
 case atStart => exact ⟨(0),(by first | rfl | (simp; done) | (simp [*]; done)),H',⟨Nat.le_refl _⟩,by repeat (first | exact Drawn0.refl _ | apply Drawn0.step)⟩
 case round =>
  clear H'
  obtain ⟨x3_1,rfl,HA,HK1,⟨m1,rfl⟩⟩:=hrel
  cases gk with
  | zero => exact absurd HA.out (by simp [counterpaneref05_Right.l0])
  | succ k1 =>
   have H:=HA.out
   clear HA
   simp only [counterpaneref05_Right.l0] at H
   by_cases c2 : x3_1 < (l0.length : Int)
   ·rw [if_pos c2] at H
    have c2b0 : decide (x3_1 < (l0.length : Int)) = true:=decide_eq_true c2
    clear c2
    have H':=Aside0.mk H
    clear H
    go_wp2
    go_loopg [4] k1 (fun kq v4 w' => ∃ (x4_2 : Int),v4 = .int .i64 x4_2 ∧ Aside0 (counterpaneref05_Right.l1 kq l0 x3_1 x4_2 = some r) ∧ Aside0 (kq ≤ k1) ∧ Drawn0 w w')
    case atStart => exact ⟨(0),(by first | rfl | (simp; done) | (simp [*]; done)),H',⟨Nat.le_refl _⟩,by repeat (first | exact Drawn0.refl _ | apply Drawn0.step)⟩
    case round =>
     clear H'
     try clear c2
     try clear c2b0
     try clear p2
     obtain ⟨x4_2,rfl,HA,HK2,⟨m2,rfl⟩⟩:=hrel
     cases gk with
     | zero => exact absurd HA.out (by simp [counterpaneref05_Right.l1])
     | succ k2 =>
      have H:=HA.out
      clear HA
      simp only [counterpaneref05_Right.l1] at H
      by_cases c3 : 0 ≤ x3_1
      ·rw [if_pos c3] at H
       have c3b0 : decide (0 ≤ x3_1) = true:=decide_eq_true c3
       clear c3
       by_cases c4 : x3_1 < (l0.length : Int)
       ·rw [if_pos c4] at H
        have c4b0 : decide (x3_1 < (l0.length : Int)) = true:=decide_eq_true c4
        clear c4
        by_cases c5 : x4_2 < ((rdOf ByteArray.empty l0 x3_1).size : Int)
        ·rw [if_pos c5] at H
         have c5b0 : decide (x4_2 < ((rdOf ByteArray.empty l0 x3_1).size : Int)) = true:=decide_eq_true c5
         clear c5
         by_cases c6 : 0 ≤ x4_2
         ·rw [if_pos c6] at H
          have c6b0 : decide (0 ≤ x4_2) = true:=decide_eq_true c6
          clear c6
          by_cases c8 : (bt (rdOf ByteArray.empty l0 x3_1) x4_2) = 10
          ·rw [if_pos c8] at H
           have c8b0 : ((bt (rdOf ByteArray.empty l0 x3_1) x4_2) == 10) = true:=beq_iff_eq.mpr c8
           have c8b1 : ((bt (rdOf ByteArray.empty l0 x3_1) x4_2) != 10) = false:=bne_eq_false_iff_eq.mpr c8
           clear c8
           obtain rfl:=Option.some.inj H
           have p194 : 0 ≤ (x3_1 : Int):=of_decide_eq_true (by first | (with_reducible assumption) | assumption)
           have q194 : x3_1 < (l0.length : Int):=of_decide_eq_true (by first | (with_reducible assumption) | assumption)
           obtain ⟨ad194,e194,hx194_0⟩:=Kd.at_string HR0.out x3_1 p194 q194
           cases e194
           replace p194:=eq_true p194
           replace q194:=eq_true q194
           have p195 : 0 ≤ (x3_1 : Int):=of_decide_eq_true (by first | (with_reducible assumption) | assumption)
           have q195 : x3_1 < (l0.length : Int):=of_decide_eq_true (by first | (with_reducible assumption) | assumption)
           obtain ⟨ad195,e195,hx195_0⟩:=Kd.at_string HR0.out x3_1 p195 q195
           obtain rfl : ad194 = ad195:=(by injection e195)
           replace p195:=eq_true p195
           replace q195:=eq_true q195
           have p7 : 0 ≤ (x4_2 : Int):=of_decide_eq_true (by first | (with_reducible assumption) | assumption)
           have q7 : x4_2 < ((rdOf ByteArray.empty l0 x3_1).size : Int):=of_decide_eq_true (by first | (with_reducible assumption) | assumption)
           have hx7:=bt_at (rdOf ByteArray.empty l0 x3_1) x4_2
           replace p7:=eq_true p7
           replace q7:=eq_true q7
           go_wp2
           go_ret
           exact ⟨by first | rfl | (simp; done) | (simp [*]; done) | (simp [show ∀ l : List UInt8,(l != []) = !l.isEmpty from fun l => by cases l <;> rfl]; done),by repeat (first | exact Drawn0.refl _ | apply Drawn0.step)⟩
          ·rw [if_neg c8] at H
           have c8b0 : ((bt (rdOf ByteArray.empty l0 x3_1) x4_2) == 10) = false:=beq_eq_false_iff_ne.mpr c8
           have c8b1 : ((bt (rdOf ByteArray.empty l0 x3_1) x4_2) != 10) = true:=bne_iff_ne.mpr c8
           have H':=Aside0.mk H
           clear H
           have p194 : 0 ≤ (x3_1 : Int):=of_decide_eq_true (by first | (with_reducible assumption) | assumption)
           have q194 : x3_1 < (l0.length : Int):=of_decide_eq_true (by first | (with_reducible assumption) | assumption)
           obtain ⟨ad194,e194,hx194_0⟩:=Kd.at_string HR0.out x3_1 p194 q194
           cases e194
           replace p194:=eq_true p194
           replace q194:=eq_true q194
           have p195 : 0 ≤ (x3_1 : Int):=of_decide_eq_true (by first | (with_reducible assumption) | assumption)
           have q195 : x3_1 < (l0.length : Int):=of_decide_eq_true (by first | (with_reducible assumption) | assumption)
           obtain ⟨ad195,e195,hx195_0⟩:=Kd.at_string HR0.out x3_1 p195 q195
           obtain rfl : ad194 = ad195:=(by injection e195)
           replace p195:=eq_true p195
           replace q195:=eq_true q195
           have p7 : 0 ≤ (x4_2 : Int):=of_decide_eq_true (by first | (with_reducible assumption) | assumption)
           have q7 : x4_2 < ((rdOf ByteArray.empty l0 x3_1).size : Int):=of_decide_eq_true (by first | (with_reducible assumption) | assumption)
           have hx7:=bt_at (rdOf ByteArray.empty l0 x3_1) x4_2
           replace p7:=eq_true p7
           replace q7:=eq_true q7
           go_wp2
           go_roundg k2
           case measure => have:=HK1.out; have:=HK2.out; omega
           case rel => exact ⟨(wrap64 (x4_2 + 1)),(by first | rfl | (simp; done) | (simp [*]; done)),H',⟨by have:=HK1.out; have:=HK2.out; omega⟩,by repeat (first | exact Drawn0.refl _ | apply Drawn0.step)⟩
         ·rw [if_neg c6] at H
          exact absurd H (by simp)
        ·rw [if_neg c5] at H
         have c5b0 : decide (x4_2 < ((rdOf ByteArray.empty l0 x3_1).size : Int)) = false:=decide_eq_false c5
         clear c5
         have H':=Aside0.mk H
         clear H
         have p194 : 0 ≤ (x3_1 : Int):=of_decide_eq_true (by first | (with_reducible assumption) | assumption)
         have q194 : x3_1 < (l0.length : Int):=of_decide_eq_true (by first | (with_reducible assumption) | assumption)
         obtain ⟨ad194,e194,hx194_0⟩:=Kd.at_string HR0.out x3_1 p194 q194
         cases e194
         replace p194:=eq_true p194
         replace q194:=eq_true q194
         go_wp2
         go_roundg k2
         case measure => have:=HK1.out; have:=HK2.out; omega
         case rel => exact ⟨(wrap64 (x3_1 + 1)),(by first | rfl | (simp; done) | (simp [*]; done)),H',⟨by have:=HK1.out; have:=HK2.out; omega⟩,by repeat (first | exact Drawn0.refl _ | apply Drawn0.step)⟩
       ·rw [if_neg c4] at H
        exact absurd H (by simp)
      ·rw [if_neg c3] at H
       exact absurd H (by simp)
   ·rw [if_neg c2] at H
    have c2b0 : decide (x3_1 < (l0.length : Int)) = false:=decide_eq_false c2
    clear c2
    obtain rfl:=Option.some.inj H
    go_wp2
    go_ret
    exact ⟨by first | rfl | (simp; done) | (simp [*]; done) | (simp [show ∀ l : List UInt8,(l != []) = !l.isEmpty from fun l => by cases l <;> rfl]; done),by repeat (first | exact Drawn0.refl _ | apply Drawn0.step)⟩

end Go.Proofs.YthhohbidjhcjeaaGreatDoor.Q
namespace Go.Proofs.YthhohbidjhcjeaaGreatDoor.Pl
open Go.RowKit Go.Proofs.YthhohbidjhcjeaaGreatDoorW.PrintWords Go.Proofs.YthhohbidjhcjeaaGreatDoorW.PrintMore Go.Proofs.YthhohbidjhcjeaaGreatDoor.Q Go.Proofs.YthhohbidjhcjeaaGreatDoor.H

/-! ### within -/
theorem refWithin_f (a b : ByteArray) : counterpaneref04_Within.f a b = some (withinB a b):=by
 unfold counterpaneref04_Within.f withinB
 by_cases he : a.toList = b.toList
 ·obtain rfl:=toList_inj he
  have e1 : (a.extract 0 a.size) = a:=by simp
  have e2 : (a.extract a.size a.size).toList = []:=by rw [toList_data,extract_data]; simp
  rw [if_pos rfl,if_pos ⟨by rw [e1],Nat.le_refl _⟩,if_pos e2]
 ·rw [if_neg he]
  by_cases hs : b.size < a.size
  ·rw [if_pos (by omega),if_pos (by omega),if_pos (by omega),Int.toNat_natCast]
   by_cases hp : (a.extract 0 b.size).toList = b.toList
   ·have hr : (a.extract b.size a.size).size = a.size - b.size:=by simp
    have hn : ¬ (a.extract b.size a.size).toList = []:=fun e => by
     have:=size_toList (a.extract b.size a.size)
     rw [e] at this
     simp at this
     omega
    rw [if_pos hp,if_pos (by omega),if_pos ⟨hp,by omega⟩,if_neg hn]
    have hb : bt (a.extract b.size a.size) 0 = bt a (b.size : Int):=by
     have h0:=bt_get (a.extract b.size a.size) 0 (by omega)
     rw [show ((0 : Nat) : Int) = 0 from rfl] at h0
     rw [h0,bt_get a b.size hs]
     congr 2
     rw [← Option.some_inj,← List.getElem?_eq_getElem,← List.getElem?_eq_getElem,extract_data,List.getElem?_drop,List.getElem?_take]
     simp [hs]
    rw [hb]
   ·rw [if_neg hp,if_neg (fun h => hp h.1)]
  ·rw [if_neg (by omega),if_neg ?_]
   rintro ⟨h1,h2⟩
   have : b.size = a.size:=by omega
   rw [this] at h1
   simp at h1
   exact he h1
theorem refApart_f (a b : ByteArray) : counterpaneref04_Apart.f a b = some (apartB a b):=by
 unfold counterpaneref04_Apart.f apartB
 rw [refWithin_f,refWithin_f]
 cases withinB a b <;> rfl

/-! ### parts -/
def letB (c : Nat) : Bool:=c == 46 || c == 95 || c == 45 || (decide (97 ≤ c) && decide (c ≤ 122)) || (decide (48 ≤ c) && decide (c ≤ 57))
theorem letB_eq : ∀ c,c < 128 → isLetter c = letB c:=by decide +kernel
theorem letB_high (c : Nat) (h : 128 ≤ c) : letB c = false:=by simp [letB]; omega
theorem strange_from (s : ByteArray) : ∀ (f pos : Nat),s.size ≤ pos + f → (0 ≤ Lib.idxFuncFrom (fun r => !isLetter r) true s f pos ↔ ∃ b ∈ s.data.toList.drop pos,letB b.toNat = false)
 | 0,pos,h => by
  rw [List.drop_eq_nil_of_le (by rw [dlen]; omega)]
  simp [Lib.idxFuncFrom]
 | f + 1,pos,h => by
  by_cases hp : pos < s.size
  ·have h1 : pos < s.data.toList.length:=by rw [dlen]; exact hp
   rw [List.drop_eq_getElem_cons h1]
   have hg : (s[pos]'hp) = s.data.toList[pos]:=rfl
   by_cases ha : (s.data.toList[pos]).toNat < 128
   ·have hd:=decode_ascii s pos hp (by rw [hg]; exact ha)
    rw [hg] at hd
    simp only [Lib.idxFuncFrom,if_pos hp,hd,letB_eq _ ha]
    cases hl : letB (s.data.toList[pos]).toNat with
    | true =>
     simp only [Bool.not_true,Bool.false_eq_true,if_false]
     rw [strange_from s f (pos + 1) (by omega)]
     exact ⟨fun ⟨b,hb,h⟩ => ⟨b,List.mem_cons_of_mem _ hb,h⟩,fun ⟨b,hb,h⟩ => by
      rcases List.mem_cons.1 hb with rfl | hb
      ·rw [hl] at h
       cases h
      ·exact ⟨b,hb,h⟩⟩
    | false =>
     simp only [Bool.not_false,if_true]
     exact ⟨fun _ => ⟨_,List.mem_cons_self,hl⟩,fun _ => by omega⟩
   ·obtain ⟨h2,_⟩:=decode_high s pos hp (by rw [hg]; omega)
    have hl : isLetter (Utf8.decode s pos).1 = false:=by
     have : ¬ (Utf8.decode s pos).1 < 128:=by omega
     simp [isLetter,this]
    simp only [Lib.idxFuncFrom,if_pos hp,hl,Bool.not_false,if_true]
    exact ⟨fun _ => ⟨_,List.mem_cons_self,letB_high _ (Nat.le_of_not_lt ha)⟩,fun _ => by omega⟩
  ·rw [Lib.idxFuncFrom_end _ _ _ _ _ hp,List.drop_eq_nil_of_le (by rw [dlen]; omega)]
   simp
theorem strange_eq (s : ByteArray) : strangeB s = !(s.data.toList.all (fun b => letB b.toNat)):=by
 have h:=strange_from s s.size 0 (by omega)
 rw [List.drop_zero] at h
 rw [strangeB,Lib.idxFunc]
 cases ha : s.data.toList.all (fun b => letB b.toNat) with
 | true =>
  rw [List.all_eq_true] at ha
  refine decide_eq_false (fun hh => ?_)
  obtain ⟨b,hb,hl⟩:=h.1 hh
  rw [ha b hb] at hl
  cases hl
 | false =>
  obtain ⟨b,hb,hl⟩:=List.all_eq_false.1 ha
  exact decide_eq_true (h.2 ⟨b,hb,by simpa using hl⟩)
theorem refPart_l (s : ByteArray) (hn : s.size ≤ 140737488355328) : ∀ (d i : Nat),i + d = s.size → Ev (fun k => counterpaneref04_part.l0 k s (i : Int)) ((s.data.toList.drop i).all (fun b => letB b.toNat)):=by
 intro d
 induction d with
 | zero =>
  intro i hi
  rw [List.drop_eq_nil_of_le (by rw [dlen]; omega)]
  refine Ev.step (f:=fun _ => some true) (fun k => ?_) (Ev.now _)
  simp only [counterpaneref04_part.l0]
  rw [if_neg (by omega)]
 | succ d ih =>
  intro i hi
  have h2 : i < s.size:=by omega
  have h1 : i < s.data.toList.length:=by rw [dlen]; exact h2
  rw [List.drop_eq_getElem_cons h1,List.all_cons]
  obtain ⟨c,hc⟩ : ∃ c,(s.data.toList[i]).toNat = c:=⟨_,rfl⟩
  have hb : bt s (i : Int) = (c : Int):=by rw [bt_get s i h2,hc]
  have key:=ih (i + 1) (by omega)
  rw [hc]
  cases hl : letB c with
  | true =>
   rw [Bool.true_and]
   refine Ev.step (f:=fun k => counterpaneref04_part.l0 k s ((i + 1 : Nat) : Int)) (fun k => ?_) key
   simp only [counterpaneref04_part.l0]
   rw [if_pos (by omega),if_pos (by omega),hb,wrap_1 h2 hn]
   simp only [letB,Bool.or_eq_true,beq_iff_eq,Bool.and_eq_true,decide_eq_true_eq] at hl
   repeat' split
   all_goals first | rfl | omega
  | false =>
   rw [Bool.false_and]
   refine Ev.step (f:=fun _ => some false) (fun k => ?_) (Ev.now _)
   simp only [counterpaneref04_part.l0]
   rw [if_pos (by omega),if_pos (by omega),hb]
   simp only [letB,Bool.or_eq_false_iff,beq_eq_false_iff_ne,Bool.and_eq_false_iff,decide_eq_false_iff_not,ne_eq] at hl
   repeat' split
   all_goals first | rfl | omega
theorem refPart (s : ByteArray) (hn : s.size ≤ 140737488355328) : Ev (fun k => counterpaneref04_part.f k s) (partB s):=by
 have yes : Ev (fun k => counterpaneref04_part.j0 k s true) false:=Ev.step (f:=fun _ => some false) (fun k => by simp only [counterpaneref04_part.j0,if_true]) (Ev.now _)
 have hl : s.toList.length = s.size:=size_toList s
 unfold partB
 by_cases h0 : s.toList = []
 ·rw [if_pos h0]
  refine Ev.congr (fun k => if_pos ?_) yes
  rw [h0] at hl
  simp at hl
  omega
 ·have h1 : s.toList.length ≠ 0:=fun e => h0 (List.length_eq_zero_iff.1 e)
  rw [if_neg h0]
  refine Ev.congr (fun k => if_neg (by omega)) ?_
  by_cases h16 : s.size ≤ 16
  ·rw [if_pos h16]
   refine Ev.congr (fun k => if_neg (by omega)) ?_
   by_cases hd : s.toList = [46]
   ·rw [if_pos hd]
    exact Ev.congr (fun k => if_pos hd) yes
   ·rw [if_neg hd]
    refine Ev.congr (fun k => if_neg hd) ?_
    by_cases hdd : s.toList = [46,46]
    ·rw [if_pos hdd]
     refine Ev.congr (fun k => ?_) yes
     rw [hdd]
     rfl
    ·rw [if_neg hdd,strange_eq,Bool.not_not]
     have e : (s.toList == ([46,46] : List UInt8)) = false:=by simpa using hdd
     have:=refPart_l s hn s.size 0 (by omega)
     rw [List.drop_zero] at this
     refine Ev.step (f:=fun k => counterpaneref04_part.l0 k s ((0 : Nat) : Int)) (fun k => ?_) this
     simp only [counterpaneref04_part.j0,e,Bool.false_eq_true,if_false]
     rfl
  ·rw [if_neg h16]
   exact Ev.congr (fun k => if_pos (by omega)) yes

/-! ### paths -/
theorem pieces_at (c : UInt8) : ∀ (l : List UInt8) (i : Nat),(∀ j,j < i → l[j]? ≠ some c) → l[i]? = some c → pieces c l = l.take i :: pieces c (l.drop (i + 1))
 | [],i,_,h => by simp at h
 | b :: l,0,_,h => by
  obtain rfl : b = c:=by simpa using h
  simp [pieces]
 | b :: l,i + 1,hn,h => by
  have hb : ¬ b = c:=fun e => hn 0 (by omega) (by simp [e])
  have ih:=pieces_at c l i (fun j hj => by simpa using hn (j + 1) (by omega)) (by simpa using h)
  rw [pieces,if_neg hb,ih]
  rfl
theorem pieces_end (c : UInt8) : ∀ (l : List UInt8),(∀ j : Nat,l[j]? ≠ some c) → pieces c l = [l]
 | [],_ => rfl
 | b :: l,hn => by
  have hb : ¬ b = c:=fun e => hn 0 (by simp [e])
  rw [pieces,if_neg hb,pieces_end c l (fun j => by simpa using hn (j + 1))]
/-- What the reference answers on a rest of a path behind n parts. -/
def restB (n : Nat) (l : List UInt8) : Bool:=(pieces 47 l).all (fun y => partB ⟨y.toArray⟩) && decide (n + (pieces 47 l).length ≤ 8)
theorem restB_cons (n : Nat) (l : List UInt8) (y : List UInt8) (r : List UInt8) (h : pieces 47 l = y :: pieces 47 r) : restB n l = (partB ⟨y.toArray⟩ && restB (n + 1) r):=by
 rw [restB,h,List.all_cons,List.length_cons,restB,Bool.and_assoc]
 congr 2
 exact decide_eq_decide.2 (by omega)
theorem refRight_l (s : ByteArray) (hn : s.size ≤ 140737488355328) : ∀ (d i fr n : Nat),i + d = s.size → fr ≤ i → n ≤ i → (∀ j,fr ≤ j → j < i → s.data.toList[j]? ≠ some 47) →
  Ev (fun k => counterpaneref04_Right.l0 k s (n : Int) (fr : Int) (i : Int)) (restB n (s.data.toList.drop fr)):=by
 have hdl:=dlen s
 have hf : ∀ y : List UInt8,y.length ≤ s.size → (⟨y.toArray⟩ : ByteArray).size ≤ 140737488355328:=fun y hy => by
  have : (⟨y.toArray⟩ : ByteArray).size = y.length:=by simp [ByteArray.size]
  omega
 have piece : ∀ fr i : Nat,s.extract fr i = ⟨((s.data.toList.drop fr).take (i - fr)).toArray⟩:=fun fr i => by
  refine data_inj ?_
  rw [extract_data]
  simp only
  rw [List.take_drop]
  by_cases h : fr ≤ i
  ·rw [show fr + (i - fr) = i by omega]
  ·rw [List.drop_eq_nil_of_le (by simp; omega),List.drop_eq_nil_of_le (by simp; omega)]
 intro d
 induction d with
 | zero =>
  intro i fr n hi hfr hni hno
  obtain rfl : i = s.size:=by omega
  have hp : pieces 47 (s.data.toList.drop fr) = [s.data.toList.drop fr]:=pieces_end 47 _ (fun j => by
   rw [List.getElem?_drop]
   by_cases hj : fr + j < s.size
   ·exact hno _ (by omega) hj
   ·rw [List.getElem?_eq_none (by omega)]; simp)
  have he : s.extract fr s.size = ⟨(s.data.toList.drop fr).toArray⟩:=by
   rw [piece,List.take_of_length_le (by simp)]
  have hP:=refPart ⟨(s.data.toList.drop fr).toArray⟩ (hf _ (by simp))
  have last : ∀ m : Nat,Ev (fun k => counterpaneref04_Right.l0 k s (m : Int) ((s.size + 1 : Nat) : Int) ((s.size + 1 : Nat) : Int)) (decide (m ≤ 8)):=fun m => by
   refine Ev.step (f:=fun _ => some (decide (m ≤ 8))) (fun k => ?_) (Ev.now _)
   simp only [counterpaneref04_Right.l0]
   rw [if_neg (by omega)]
   exact congrArg some (decide_eq_decide.2 (by omega))
  have hr : restB n (s.data.toList.drop fr) = (partB ⟨(s.data.toList.drop fr).toArray⟩ && decide (n + 1 ≤ 8)):=by
   rw [restB,hp]
   simp
  rw [hr]
  refine Ev.step (f:=fun k => counterpaneref04_Right.j1 k s (n : Int) (fr : Int) (s.size : Int) false) (fun k => ?_) ?_
  ·simp only [counterpaneref04_Right.l0]
   rw [if_pos (by omega),if_neg (by omega)]
  ·refine Ev.step (f:=fun k => (counterpaneref04_part.f k ⟨(s.data.toList.drop fr).toArray⟩).bind fun t => if t = true then counterpaneref04_Right.l0 k s ((n + 1 : Nat) : Int) ((s.size + 1 : Nat) : Int) ((s.size + 1 : Nat) : Int) else some false) (fun k => ?_) ?_
   ·simp only [counterpaneref04_Right.j1,Bool.false_eq_true,if_false]
    rw [if_pos (by omega),if_pos (by omega),if_pos (by omega),Int.toNat_natCast,Int.toNat_natCast,he]
    have w1 : wrap64 ((n : Int) + 1) = ((n + 1 : Nat) : Int):=by rw [wrap_id (by omega) (by omega)]; omega
    have w2 : wrap64 ((s.size : Int) + 1) = ((s.size + 1 : Nat) : Int):=by rw [wrap_id (by omega) (by omega)]; omega
    rw [w1,w2]
   ·cases hb : partB ⟨(s.data.toList.drop fr).toArray⟩ with
    | true =>
     rw [hb] at hP
     rw [Bool.true_and]
     exact Ev.bind (f:=fun k t => if t = true then counterpaneref04_Right.l0 k s ((n + 1 : Nat) : Int) ((s.size + 1 : Nat) : Int) ((s.size + 1 : Nat) : Int) else some false) hP (Ev.congr (fun k => if_pos rfl) (last (n + 1)))
    | false =>
     rw [hb] at hP
     rw [Bool.false_and]
     exact Ev.bind (f:=fun k t => if t = true then counterpaneref04_Right.l0 k s ((n + 1 : Nat) : Int) ((s.size + 1 : Nat) : Int) ((s.size + 1 : Nat) : Int) else some false) hP (Ev.congr (fun k => if_neg (by simp)) (Ev.now _))
 | succ d ih =>
  intro i fr n hi hfr hni hno
  have h2 : i < s.size:=by omega
  have h1 : i < s.data.toList.length:=by omega
  have hb:=bt_get s i h2
  by_cases hc : s.data.toList[i] = 47
  ·have hp : pieces 47 (s.data.toList.drop fr) = (s.data.toList.drop fr).take (i - fr) :: pieces 47 (s.data.toList.drop (i + 1)):=by
    have:=pieces_at 47 (s.data.toList.drop fr) (i - fr) (fun j hj => by rw [List.getElem?_drop]; exact hno _ (by omega) (by omega)) (by rw [List.getElem?_drop,show fr + (i - fr) = i by omega,List.getElem?_eq_getElem h1,hc])
    rw [this,List.drop_drop,show fr + (i - fr + 1) = i + 1 by omega]
   rw [restB_cons _ _ _ _ hp]
   have he:=piece fr i
   have hP:=refPart ⟨((s.data.toList.drop fr).take (i - fr)).toArray⟩ (hf _ (by simp; omega))
   have key:=ih (i + 1) (i + 1) (n + 1) (by omega) (Nat.le_refl _) (by omega) (fun j h3 h4 => by omega)
   refine Ev.step (f:=fun k => counterpaneref04_Right.j1 k s (n : Int) (fr : Int) (i : Int) false) (fun k => ?_) ?_
   ·simp only [counterpaneref04_Right.l0]
    rw [if_pos (by omega),if_pos (by omega),if_pos (by omega),hb,hc]
    rfl
   ·refine Ev.step (f:=fun k => (counterpaneref04_part.f k ⟨((s.data.toList.drop fr).take (i - fr)).toArray⟩).bind fun t => if t = true then counterpaneref04_Right.l0 k s ((n + 1 : Nat) : Int) ((i + 1 : Nat) : Int) ((i + 1 : Nat) : Int) else some false) (fun k => ?_) ?_
    ·simp only [counterpaneref04_Right.j1,Bool.false_eq_true,if_false]
     rw [if_pos (by omega),if_pos (by omega),if_pos (by omega),Int.toNat_natCast,Int.toNat_natCast,he,wrap_1 h2 hn]
     have w1 : wrap64 ((n : Int) + 1) = ((n + 1 : Nat) : Int):=by rw [wrap_id (by omega) (by omega)]; omega
     rw [w1]
    ·cases hb : partB ⟨((s.data.toList.drop fr).take (i - fr)).toArray⟩ with
     | true =>
      rw [hb] at hP
      rw [Bool.true_and]
      exact Ev.bind (f:=fun k t => if t = true then counterpaneref04_Right.l0 k s ((n + 1 : Nat) : Int) ((i + 1 : Nat) : Int) ((i + 1 : Nat) : Int) else some false) hP (Ev.congr (fun k => if_pos rfl) key)
     | false =>
      rw [hb] at hP
      rw [Bool.false_and]
      exact Ev.bind (f:=fun k t => if t = true then counterpaneref04_Right.l0 k s ((n + 1 : Nat) : Int) ((i + 1 : Nat) : Int) ((i + 1 : Nat) : Int) else some false) hP (Ev.congr (fun k => if_neg (by simp)) (Ev.now _))
  ·have key:=ih (i + 1) fr n (by omega) (by omega) (by omega) (fun j h3 h4 => by
    by_cases hj : j = i
    ·subst hj
     rw [List.getElem?_eq_getElem h1]
     simpa using hc
    ·exact hno j h3 (by omega))
   refine Ev.step (f:=fun k => counterpaneref04_Right.j1 k s (n : Int) (fr : Int) (i : Int) true) (fun k => ?_) (Ev.step (f:=fun k => counterpaneref04_Right.l0 k s (n : Int) (fr : Int) ((i + 1 : Nat) : Int)) (fun k => ?_) key)
   ·simp only [counterpaneref04_Right.l0]
    rw [if_pos (by omega),if_pos (by omega),if_pos (by omega),hb]
    have hne : (((s.data.toList[i]).toNat : Int) != 47) = true:=by
     rw [bne_iff_ne]
     intro e
     have h47 : (47 : UInt8).toNat = 47:=rfl
     exact hc (UInt8.toNat_inj.1 (by rw [h47]; omega))
    rw [hne]
   ·simp only [counterpaneref04_Right.j1,if_true]
    rw [wrap_1 h2 hn]
theorem refRight (s : ByteArray) (hn : s.size ≤ 140737488355328) : Ev (fun k => counterpaneref04_Right.f k s) (rightB s):=by
 have h:=refRight_l s hn s.size 0 0 0 (by omega) (Nat.le_refl _) (Nat.le_refl _) (fun j _ h => by omega)
 have e : restB 0 (s.data.toList.drop 0) = rightB s:=by
  rw [List.drop_zero,restB,rightB,Nat.zero_add]
 rw [e] at h
 exact h

/-! ### tokens -/
/-! ### lines -/
theorem nl_of (s : ByteArray) : hasNL s = s.data.toList.any (fun b => b == 10):=by
 have key : ∀ l : List UInt8,decide (0 ≤ Lib.indexByte l 10) = l.any (fun b => b == 10):=by
  intro l
  induction l with
  | nil => rfl
  | cons b l ih =>
   rw [List.any_cons,← ih]
   have hg:=Lib.indexByte_ge l 10
   cases hb : (b == 10) with
   | true => simp [Lib.indexByte,hb]
   | false =>
    simp only [Lib.indexByte,hb,Bool.false_eq_true,if_false,Bool.false_or]
    by_cases e : Lib.indexByte l 10 = -1
    ·simp [e]
    ·have e' : (Lib.indexByte l 10 == -1) = false:=by simpa using e
     simp only [e',Bool.false_eq_true,if_false]
     exact decide_eq_decide.2 (by omega)
 exact key _
theorem refLines_in (l : List ByteArray) (hl : l.length ≤ 140737488355328) (i : Nat) (hi : i < l.length) (r : Bool) (hs : l[i].size ≤ 140737488355328)
  (hr : Ev (fun k => counterpaneref05_Right.l0 k l ((i + 1 : Nat) : Int)) r) : ∀ (d j : Nat),j + d = l[i].size → Ev (fun k => counterpaneref05_Right.l1 k l (i : Int) (j : Int)) (!((l[i].data.toList.drop j).any (fun b => b == 10)) && r):=by
 have hsl:=dlen l[i]
 have hrd:=rdOf_get ByteArray.empty l hi
 intro d
 induction d with
 | zero =>
  intro j hj
  refine Ev.step (f:=fun k => counterpaneref05_Right.l0 k l ((i + 1 : Nat) : Int)) (fun k => ?_) ?_
  ·simp only [counterpaneref05_Right.l1]
   rw [if_pos (by omega),if_pos (by omega),hrd,if_neg (by omega),wrap_1 hi hl]
  ·rw [List.drop_of_length_le (by omega)]
   simpa using hr
 | succ d ih =>
  intro j hj
  have h1 : j < l[i].data.toList.length:=by omega
  have h2 : j < l[i].size:=by omega
  have eb:=bt_get l[i] j h2
  have key:=ih (j + 1) (by omega)
  rw [List.drop_eq_getElem_cons h1,List.any_cons]
  obtain ⟨c,hc⟩ : ∃ c,l[i].data.toList[j] = c:=⟨_,rfl⟩
  rw [hc] at eb ⊢
  have h10 : (10 : UInt8).toNat = 10:=rfl
  by_cases hb : c = 10
  ·have e : (c == 10) = true:=by simpa using hb
   rw [e,Bool.true_or,Bool.not_true,Bool.false_and]
   refine Ev.step (f:=fun _ => some false) (fun k => ?_) (Ev.now _)
   simp only [counterpaneref05_Right.l1]
   rw [if_pos (by omega),if_pos (by omega),hrd,if_pos (by omega),if_pos (by omega),eb,hb]
   exact if_pos rfl
  ·have e : (c == 10) = false:=by simpa using hb
   rw [e,Bool.false_or]
   refine Ev.step (f:=fun k => counterpaneref05_Right.l1 k l (i : Int) ((j + 1 : Nat) : Int)) (fun k => ?_) key
   simp only [counterpaneref05_Right.l1]
   rw [if_pos (by omega),if_pos (by omega),hrd,if_pos (by omega),if_pos (by omega),eb,if_neg ?_,wrap_1 h2 hs]
   intro e2
   exact hb (UInt8.toNat_inj.1 (by rw [h10]; omega))
theorem refLines_l (l : List ByteArray) (hl : l.length ≤ 140737488355328) (hs : ∀ x ∈ l,x.size ≤ 140737488355328) : ∀ (d i : Nat),i + d = l.length → Ev (fun k => counterpaneref05_Right.l0 k l (i : Int)) (!((l.drop i).any hasNL)):=by
 intro d
 induction d with
 | zero =>
  intro i hi
  refine Ev.step (f:=fun _ => some true) (fun k => ?_) ?_
  ·simp only [counterpaneref05_Right.l0]
   rw [if_neg (by omega)]
  ·rw [List.drop_of_length_le (by omega)]
   exact Ev.now _
 | succ d ih =>
  intro i hi
  have h1 : i < l.length:=by omega
  have h:=refLines_in l hl i h1 _ (hs _ (List.getElem_mem h1)) (ih (i + 1) (by omega)) l[i].size 0 (by omega)
  rw [List.drop_zero,← nl_of,← Bool.not_or,← List.any_cons,← List.drop_eq_getElem_cons h1] at h
  refine Ev.step (f:=fun k => counterpaneref05_Right.l1 k l (i : Int) ((0 : Nat) : Int)) (fun k => ?_) h
  simp only [counterpaneref05_Right.l0]
  rw [if_pos (by omega)]
  rfl
theorem refLinesRight (l : List ByteArray) (hl : l.length ≤ 140737488355328) (hs : ∀ x ∈ l,x.size ≤ 140737488355328) : Ev (fun k => counterpaneref05_Right.f k l) (linesB l):=by
 have h:=refLines_l l hl hs l.length 0 (by omega)
 rw [List.drop_zero] at h
 exact h

/-! ### patches -/
end Go.Proofs.YthhohbidjhcjeaaGreatDoor.Pl
namespace Go.Proofs.YthhohbidjhcjeaaGreatDoor.Q
open Go.RowKit Go.Proofs.YthhohbidjhcjeaaGreatDoorW.PrintWords Go.Proofs.YthhohbidjhcjeaaGreatDoorW.PrintLast Go.Proofs.YthhohbidjhcjeaaGreatDoorW.PrintMore
attribute [local go_sem] max2_int min2_int max_two min_two max_three min_three max_four min_four   -- for this text's walks alone
set_option linter.unusedVariables false
set_option linter.unusedSimpArgs false

/-! ### counterpaneref07_Find: function 33 -/
def counterpaneref07_Find.l0 : Nat → List (S41) → ByteArray → Int → Option (ByteArray × Int × List ByteArray × ByteArray × Bool)
 | 0,_,_,_ => none
 | k + 1,x0,x1,x6 => if x6 < (x0.length : Int) then (if 0 ≤ x6 then (if ((rd_T41 x0 x6).f0).toList = x1.toList then (some ((rd_T41 x0 x6).f0,(rd_T41 x0 x6).f1,(rd_T41 x0 x6).f2,(rd_T41 x0 x6).f3,true)) else (counterpaneref07_Find.l0 k x0 x1 (wrap64 (x6 + 1)))) else (none)) else (some ((⟨#[]⟩ : ByteArray),0,([] : List ByteArray),(⟨#[]⟩ : ByteArray),false))
def counterpaneref07_Find.f (k : Nat) (l0 : List (S41)) (a1 : ByteArray) : Option (ByteArray × Int × List ByteArray × ByteArray × Bool):=counterpaneref07_Find.l0 k l0 a1 0
theorem counterpaneref07_Find.mono_l : ∀ k,(∀ y0 y1 y2,LeO (counterpaneref07_Find.l0 k y0 y1 y2) (counterpaneref07_Find.l0 (k + 1) y0 y1 y2))
 | 0 => fun _ _ _ r h => by simp [counterpaneref07_Find.l0] at h
 | k + 1 => by
  have ih0:=counterpaneref07_Find.mono_l k
  ·intro y0 y1 y2
   unfold counterpaneref07_Find.l0
   repeat' first
   | (with_reducible exact ih0 _ _ _)
   | (with_reducible exact LeO.refl _)
   | (with_reducible exact LeO.none _)
   | (with_reducible refine LeO.ite ?_ ?_)
   | (with_reducible refine LeO.bind ?_ (fun _ => ?_))
   | exact ih0 _ _ _
   | exact LeO.none _
   | refine LeO.ite ?_ ?_
   | refine LeO.bind ?_ (fun _ => ?_)
theorem counterpaneref07_Find.mono : ∀ a0 a1 k,LeO (counterpaneref07_Find.f k a0 a1) (counterpaneref07_Find.f (k + 1) a0 a1):=by
 intro a0 a1 k
 have ih0:=counterpaneref07_Find.mono_l k
 unfold counterpaneref07_Find.f
 repeat' first
   | (with_reducible exact ih0 _ _ _)
   | (with_reducible exact LeO.refl _)
   | (with_reducible exact LeO.none _)
   | (with_reducible refine LeO.ite ?_ ?_)
   | (with_reducible refine LeO.bind ?_ (fun _ => ?_))
   | exact ih0 _ _ _
   | exact LeO.none _
   | refine LeO.ite ?_ ?_
   | refine LeO.bind ?_ (fun _ => ?_)
set_option maxHeartbeats 8000000 in
set_option maxRecDepth 100000 in
theorem counterpaneref07_Find.calls (k : Nat) (P0_ : Nat → Prop) (A0 : Option Addr) (c0 : Nat) (l0 : List (S41)) (a1 : ByteArray) (r1 : ByteArray) (r2 : Int) (r3 : List ByteArray) (r4 : ByteArray) (r5 : Bool) (w : World) (hs0 : Kd.V k41 41 w w.heap.size (fun k_ => P0_ k_) (.slice A0 l0.length c0) l0) (h : counterpaneref07_Find.f k l0 a1 = some (r1,r2,r3,r4,r5)) :
  Calls Tryz.prog 33 #[.slice A0 l0.length c0,.string a1] w fun e w' => ∃ v2_ : Value,e = .returned (.tuple #[.agg #[.string r1,.int .i64 r2,v2_,.string r4],.bool r5]) ∧ Kd.V Kd.string 9 w' w.heap.size (fun k_ => (P0_ k_ ∨ w.heap.size ≤ k_)) v2_ r3 ∧ Below w.heap.size w w':=by
 have hu41:=Tryz.underlying41
 have HO0:=Aside0.mk (show Kd.V k41 41 w w.heap.size (fun k_ => (P0_ k_ ∨ w.heap.size ≤ k_)) (.slice A0 l0.length c0) l0 from Kd.V_mono hs0 (fun k_ hk => .inl hk))
 have HB:=Aside0.mk (Below.refl w.heap.size w)
 have H : (counterpaneref07_Find.l0 k l0 a1 0) = some (r1,r2,r3,r4,r5):=h
 clear h
 have H':=Aside0.mk H
 clear H
 go_enter Tryz.func33,Tryz.ntmps33
 go_wp2_with (first | ((with_reducible refine gate_dst (N:=4) rfl ?_); refine box_event ?hg (N:=4) ?hd (cs:=#[.string (⟨#[]⟩ : ByteArray),.int .i64 0,.slice none 0 0,.string (⟨#[]⟩ : ByteArray)]) (t:=41) ?hr ?_; (case hd => rfl); (case hg => rfl); (case hr => first | (go_simp; done) | (go_simp; rfl)); intro gb205 hg w3 hbox hb; have n0_:=Aside0.mk (Kd.V_below (Kd.V_elderB (by (with_reducible repeat (first | apply Kd.V_alloc | apply Kd.V_drewN | apply Kd.V_drew)); exact HO0.out) gb205 (Nat.le_of_eq hg.symm)) hb); have n1_:=Aside0.mk (below_step (by repeat (first | (with_reducible first | exact HB.out | apply below_alloc | apply pw_below_drewN | apply below_drew1) | exact HB.out)) hb); have n2_:=Aside0.mk (hbox); have n3_:=Aside0.mk ((by rw [hg]; exact (below_size (by repeat (first | (with_reducible first | exact HB.out | apply below_alloc | apply pw_below_drewN | apply below_drew1) | exact HB.out))) : w.heap.size ≤ gb205)); have n4_:=Aside0.mk ((by rw [hg]; exact (below_size (by repeat (first | (with_reducible first | exact HB.out | apply below_alloc | apply pw_below_drewN | apply below_drew1) | exact HB.out))) : w.heap.size ≤ gb205)); clear HO0; clear HB; have HO0:=n0_; have HB:=n1_; have BK205:=n2_; have GW205:=n3_; have GE205:=n4_; clear n0_ n1_ n2_ n3_ n4_; clear hb hbox hg))
 go_loopg [6] k (fun kq v6 w' => ∃ (x6_1 : Int) (x206000_1 : ByteArray) (x206001_1 : Int) (x206003_1 : ByteArray),v6 = .int .i64 x6_1 ∧ Aside0 (counterpaneref07_Find.l0 kq l0 a1 x6_1 = some (r1,r2,r3,r4,r5)) ∧ Aside0 (kq ≤ k) ∧ Aside0 (Kd.V k41 41 w' w.heap.size (fun k_ => (P0_ k_ ∨ w.heap.size ≤ k_) ∧ k_ ≠ gb205) (.slice A0 l0.length c0) l0) ∧ Aside0 (w'.heap[gb205]? = some (.cells #[.string x206000_1,.int .i64 x206001_1,(.slice none 0 0),.string x206003_1] 41 (0,0))) ∧ Aside0 (Below w.heap.size w w'))
 case atStart => exact ⟨(0),((⟨#[]⟩ : ByteArray)),(0),((⟨#[]⟩ : ByteArray)),(by first | rfl | (simp; done) | (simp [*]; done)),H',⟨Nat.le_refl _⟩,⟨by (with_reducible repeat (first | apply Kd.V_alloc | apply Kd.V_drewN | apply Kd.V_drew)); exact HO0.out⟩,⟨by (with_reducible repeat (first | refine blk_drewN ?_ _ | refine blk_drew ?_ | refine blk_alloc ?_ _)); exact BK205.out⟩,⟨by repeat (first | (with_reducible first | exact HB.out | apply below_alloc | apply pw_below_drewN | apply below_drew1 | refine below_set ?_ GE205.out) | exact HB.out)⟩⟩
 case round =>
  clear H'
  try clear p2
  try clear c3
  obtain ⟨x6_1,x206000_1,x206001_1,x206003_1,rfl,HA,HK1,HO_0,BK205,HB⟩:=hrel
  cases gk with
  | zero => exact absurd HA.out (by simp [counterpaneref07_Find.l0])
  | succ k1 =>
   have H:=HA.out
   clear HA
   simp only [counterpaneref07_Find.l0] at H
   by_cases c4 : x6_1 < (l0.length : Int)
   ·rw [if_pos c4] at H
    have c4b0 : decide (x6_1 < (l0.length : Int)) = true:=decide_eq_true c4
    clear c4
    by_cases c5 : 0 ≤ x6_1
    ·rw [if_pos c5] at H
     have c5b0 : decide (0 ≤ x6_1) = true:=decide_eq_true c5
     clear c5
     by_cases c6 : ((rd_T41 l0 x6_1).f0).toList = a1.toList
     ·rw [if_pos c6] at H
      have c6b0 : (((rd_T41 l0 x6_1).f0).toList == a1.toList) = true:=beq_iff_eq.mpr c6
      have c6b1 : (((rd_T41 l0 x6_1).f0).toList != a1.toList) = false:=bne_eq_false_iff_eq.mpr c6
      clear c6
      simp only [Option.some.injEq,Prod.mk.injEq] at H
      obtain ⟨rfl,rfl,rfl,rfl,rfl⟩:=H
      have p206 : 0 ≤ (x6_1 : Int):=of_decide_eq_true (by first | (with_reducible assumption) | assumption)
      have q206 : x6_1 < (l0.length : Int):=of_decide_eq_true (by first | (with_reducible assumption) | assumption)
      obtain ⟨ad206,A206_2,c206_2,e206,hx206_0,hx206_1,hx206_2,hx206_3,hl206_2,hi206_2⟩:=at_T41 (Kd.V_reads' HO_0.out).2.2 x6_1 p206 q206
      cases e206
      obtain ⟨ce206,hce206,hMe206,hcc206⟩:=Kd.V_get HO_0.out z41 x6_1 p206 (by first | exact q206 | exact of_decide_eq_true (by first | (with_reducible assumption) | assumption) | (have e_:=(Kd.V_reads' HO_0.out).1; omega))
      obtain ⟨ua206_2,uc206_2,rfl,ul206_2,ge206_2⟩:=k41_openF hMe206
      have hv206_2:=hcc206 2 _ rfl
      rw [add_field _ _ 2 (by omega)] at hv206_2
      replace hv206_2:=Option.some.inj (hv206_2.symm.trans hx206_2)
      injection hv206_2 with hva_ hvn_ hvc_
      rw [hva_] at ge206_2
      rw [hvc_] at ul206_2
      have HL206_2:=Aside0.mk (show Kd.V Kd.string 9 _ w.heap.size _ _ ((rd_T41 l0 x6_1).f2) from Kd.V_mk ul206_2 ge206_2)
      clear hva_ hvn_ hvc_ ge206_2 ul206_2
      clear hcc206 hce206
      have HR206_2:=Aside0.mk hi206_2
      have HC206_2:=Aside0.mk hl206_2
      clear hi206_2 hl206_2
      replace p206:=eq_true p206
      replace q206:=eq_true q206
      have p207 : 0 ≤ (x6_1 : Int):=of_decide_eq_true (by first | (with_reducible assumption) | assumption)
      have q207 : x6_1 < (l0.length : Int):=of_decide_eq_true (by first | (with_reducible assumption) | assumption)
      obtain ⟨ad207,A207_2,c207_2,e207,hx207_0,hx207_1,hx207_2,hx207_3,hl207_2,hi207_2⟩:=at_T41 (Kd.V_reads' HO_0.out).2.2 x6_1 p207 q207
      obtain rfl : ad206 = ad207:=(by injection e207)
      obtain ⟨ce207,hce207,hMe207,hcc207⟩:=Kd.V_get HO_0.out z41 x6_1 p207 (by first | exact q207 | exact of_decide_eq_true (by first | (with_reducible assumption) | assumption) | (have e_:=(Kd.V_reads' HO_0.out).1; omega))
      obtain ⟨ua207_2,uc207_2,rfl,ul207_2,ge207_2⟩:=k41_openF hMe207
      have hv207_2:=hcc207 2 _ rfl
      rw [add_field _ _ 2 (by omega)] at hv207_2
      replace hv207_2:=Option.some.inj (hv207_2.symm.trans hx207_2)
      injection hv207_2 with hva_ hvn_ hvc_
      rw [hva_] at ge207_2
      rw [hvc_] at ul207_2
      have HL207_2:=Aside0.mk (show Kd.V Kd.string 9 _ w.heap.size _ _ ((rd_T41 l0 x6_1).f2) from Kd.V_mk ul207_2 ge207_2)
      clear hva_ hvn_ hvc_ ge207_2 ul207_2
      clear hcc207 hce207
      have HR207_2:=Aside0.mk hi207_2
      have HC207_2:=Aside0.mk hl207_2
      clear hi207_2 hl207_2
      replace p207:=eq_true p207
      replace q207:=eq_true q207
      have ea_:=Option.some.inj (hx206_2.symm.trans hx207_2)
      injection ea_ with ea_ en_ ec_
      subst ea_
      subst ec_
      clear en_
      have hcz7_0 : wr.cell? ⟨gb205,0,none⟩ = some (.string x206000_1):=(blk_cell BK205.out 0).trans rfl
      have hcz7_1 : wr.cell? ⟨gb205,1,none⟩ = some (.int .i64 x206001_1):=(blk_cell BK205.out 1).trans rfl
      have hcz7_2 : wr.cell? ⟨gb205,2,none⟩ = some (.slice none 0 0):=(blk_cell BK205.out 2).trans rfl
      have hcz7_3 : wr.cell? ⟨gb205,3,none⟩ = some (.string x206003_1):=(blk_cell BK205.out 3).trans rfl
      have hfz7_0:=blk_frozen BK205.out 0
      have hfz7_1:=blk_frozen BK205.out 1
      have hfz7_2:=blk_frozen BK205.out 2
      have hfz7_3:=blk_frozen BK205.out 3
      go_wp2
      refine bodyPost_ret (results_ct rfl _ _ gb205 41 #[.string ((rd_T41 l0 x6_1).f0),.int .i64 ((rd_T41 l0 x6_1).f1),.slice A206_2 ((rd_T41 l0 x6_1).f2).length c206_2,.string ((rd_T41 l0 x6_1).f3)] (0,0) _ rfl (by (with_reducible repeat (first | refine blk_drewN ?_ _ | refine blk_drew ?_ | refine blk_alloc ?_ _)); refine blk_put (cs:=#[.string ((rd_T41 l0 x6_1).f0),.int .i64 ((rd_T41 l0 x6_1).f1),.slice A206_2 ((rd_T41 l0 x6_1).f2).length c206_2,.string x206003_1]) ?_ 3 _ rfl; (with_reducible repeat (first | refine blk_drewN ?_ _ | refine blk_drew ?_ | refine blk_alloc ?_ _)); refine blk_put (cs:=#[.string ((rd_T41 l0 x6_1).f0),.int .i64 ((rd_T41 l0 x6_1).f1),.slice none 0 0,.string x206003_1]) ?_ 2 _ rfl; (with_reducible repeat (first | refine blk_drewN ?_ _ | refine blk_drew ?_ | refine blk_alloc ?_ _)); refine blk_put (cs:=#[.string ((rd_T41 l0 x6_1).f0),.int .i64 x206001_1,.slice none 0 0,.string x206003_1]) ?_ 1 _ rfl; (with_reducible repeat (first | refine blk_drewN ?_ _ | refine blk_drew ?_ | refine blk_alloc ?_ _)); refine blk_put (cs:=#[.string x206000_1,.int .i64 x206001_1,.slice none 0 0,.string x206003_1]) ?_ 0 _ rfl; (with_reducible repeat (first | refine blk_drewN ?_ _ | refine blk_drew ?_ | refine blk_alloc ?_ _)); exact BK205.out) Tryz.underlying41 rfl (by kernel_rfl)) rfl ?_
      exact ⟨_,by first | rfl | (simp [errW_none,errW_some] <;> rfl) | (simp [*,errW_none,errW_some] <;> rfl),by (with_reducible repeat (first | apply Kd.V_alloc | apply Kd.V_drewN | apply Kd.V_drew)); exact Kd.V_mono (Kd.V_far (p:=⟨gb205,3,none⟩) (Kd.V_far (p:=⟨gb205,2,none⟩) (Kd.V_far (p:=⟨gb205,1,none⟩) (Kd.V_far (p:=⟨gb205,0,none⟩) (Kd.V_mono HL207_2.out (fun k_ hk => (⟨hk,hk.2⟩ : _ ∧ k_ ≠ gb205))) (fun _ hk => hk.2) (.string ((rd_T41 l0 x6_1).f0))) (fun _ hk => hk.2) (.int .i64 ((rd_T41 l0 x6_1).f1))) (fun _ hk => hk.2) (.slice A206_2 ((rd_T41 l0 x6_1).f2).length c206_2)) (fun _ hk => hk.2) (.string ((rd_T41 l0 x6_1).f3))) (fun _ hk => hk.1.1),by repeat (first | (with_reducible first | exact HB.out | apply below_alloc | apply pw_below_drewN | apply below_drew1 | refine below_set ?_ GE205.out) | exact HB.out)⟩
     ·rw [if_neg c6] at H
      have c6b0 : (((rd_T41 l0 x6_1).f0).toList == a1.toList) = false:=beq_eq_false_iff_ne.mpr c6
      have c6b1 : (((rd_T41 l0 x6_1).f0).toList != a1.toList) = true:=bne_iff_ne.mpr c6
      have H':=Aside0.mk H
      clear H
      have p206 : 0 ≤ (x6_1 : Int):=of_decide_eq_true (by first | (with_reducible assumption) | assumption)
      have q206 : x6_1 < (l0.length : Int):=of_decide_eq_true (by first | (with_reducible assumption) | assumption)
      obtain ⟨ad206,A206_2,c206_2,e206,hx206_0,hx206_1,hx206_2,hx206_3,hl206_2,hi206_2⟩:=at_T41 (Kd.V_reads' HO_0.out).2.2 x6_1 p206 q206
      cases e206
      obtain ⟨ce206,hce206,hMe206,hcc206⟩:=Kd.V_get HO_0.out z41 x6_1 p206 (by first | exact q206 | exact of_decide_eq_true (by first | (with_reducible assumption) | assumption) | (have e_:=(Kd.V_reads' HO_0.out).1; omega))
      obtain ⟨ua206_2,uc206_2,rfl,ul206_2,ge206_2⟩:=k41_openF hMe206
      have hv206_2:=hcc206 2 _ rfl
      rw [add_field _ _ 2 (by omega)] at hv206_2
      replace hv206_2:=Option.some.inj (hv206_2.symm.trans hx206_2)
      injection hv206_2 with hva_ hvn_ hvc_
      rw [hva_] at ge206_2
      rw [hvc_] at ul206_2
      have HL206_2:=Aside0.mk (show Kd.V Kd.string 9 _ w.heap.size _ _ ((rd_T41 l0 x6_1).f2) from Kd.V_mk ul206_2 ge206_2)
      clear hva_ hvn_ hvc_ ge206_2 ul206_2
      clear hcc206 hce206
      have HR206_2:=Aside0.mk hi206_2
      have HC206_2:=Aside0.mk hl206_2
      clear hi206_2 hl206_2
      replace p206:=eq_true p206
      replace q206:=eq_true q206
      go_wp2
      go_roundg k1
      case measure => have:=HK1.out; omega
      case rel => exact ⟨(wrap64 (x6_1 + 1)),(x206000_1),(x206001_1),(x206003_1),(by first | rfl | (simp; done) | (simp [*]; done)),H',⟨by have:=HK1.out; omega⟩,⟨by (with_reducible repeat (first | apply Kd.V_alloc | apply Kd.V_drewN | apply Kd.V_drew)); exact HO_0.out⟩,⟨by (with_reducible repeat (first | refine blk_drewN ?_ _ | refine blk_drew ?_ | refine blk_alloc ?_ _)); exact BK205.out⟩,⟨by repeat (first | (with_reducible first | exact HB.out | apply below_alloc | apply pw_below_drewN | apply below_drew1 | refine below_set ?_ GE205.out) | exact HB.out)⟩⟩
    ·rw [if_neg c5] at H
     exact absurd H (by simp)
   ·rw [if_neg c4] at H
    have c4b0 : decide (x6_1 < (l0.length : Int)) = false:=decide_eq_false c4
    clear c4
    simp only [Option.some.injEq,Prod.mk.injEq] at H
    obtain ⟨rfl,rfl,rfl,rfl,rfl⟩:=H
    have hcz8_0 : wr.cell? ⟨gb205,0,none⟩ = some (.string x206000_1):=(blk_cell BK205.out 0).trans rfl
    have hcz8_1 : wr.cell? ⟨gb205,1,none⟩ = some (.int .i64 x206001_1):=(blk_cell BK205.out 1).trans rfl
    have hcz8_2 : wr.cell? ⟨gb205,2,none⟩ = some (.slice none 0 0):=(blk_cell BK205.out 2).trans rfl
    have hcz8_3 : wr.cell? ⟨gb205,3,none⟩ = some (.string x206003_1):=(blk_cell BK205.out 3).trans rfl
    have hfz8_0:=blk_frozen BK205.out 0
    have hfz8_1:=blk_frozen BK205.out 1
    have hfz8_2:=blk_frozen BK205.out 2
    have hfz8_3:=blk_frozen BK205.out 3
    go_wp2
    refine bodyPost_ret (results_ct rfl _ _ gb205 41 #[.string (⟨#[]⟩ : ByteArray),.int .i64 0,.slice none 0 0,.string (⟨#[]⟩ : ByteArray)] (0,0) _ rfl (by (with_reducible repeat (first | refine blk_drewN ?_ _ | refine blk_drew ?_ | refine blk_alloc ?_ _)); refine blk_put (cs:=#[.string (⟨#[]⟩ : ByteArray),.int .i64 0,.slice none 0 0,.string x206003_1]) ?_ 3 _ rfl; (with_reducible repeat (first | refine blk_drewN ?_ _ | refine blk_drew ?_ | refine blk_alloc ?_ _)); refine blk_put (cs:=#[.string (⟨#[]⟩ : ByteArray),.int .i64 0,.slice none 0 0,.string x206003_1]) ?_ 2 _ rfl; (with_reducible repeat (first | refine blk_drewN ?_ _ | refine blk_drew ?_ | refine blk_alloc ?_ _)); refine blk_put (cs:=#[.string (⟨#[]⟩ : ByteArray),.int .i64 x206001_1,.slice none 0 0,.string x206003_1]) ?_ 1 _ rfl; (with_reducible repeat (first | refine blk_drewN ?_ _ | refine blk_drew ?_ | refine blk_alloc ?_ _)); refine blk_put (cs:=#[.string x206000_1,.int .i64 x206001_1,.slice none 0 0,.string x206003_1]) ?_ 0 _ rfl; (with_reducible repeat (first | refine blk_drewN ?_ _ | refine blk_drew ?_ | refine blk_alloc ?_ _)); exact BK205.out) Tryz.underlying41 rfl (by kernel_rfl)) rfl ?_
    exact ⟨_,by first | rfl | (simp [errW_none,errW_some] <;> rfl) | (simp [*,errW_none,errW_some] <;> rfl),Kd.V_nil _ _ _ _ _,by repeat (first | (with_reducible first | exact HB.out | apply below_alloc | apply pw_below_drewN | apply below_drew1 | refine below_set ?_ GE205.out) | exact HB.out)⟩

/-! ### counterpaneref04_Parent: function 35 -/
def counterpaneref04_Parent.l0 : Nat → ByteArray → Int → Option (ByteArray × Bool)
 | 0,_,_ => none
 | k + 1,x0,x4 => if x4 ≥ 0 then (if 0 ≤ x4 then (if x4 < (x0.size : Int) then (if (bt x0 x4) = 47 then (if x4 ≤ (x0.size : Int) then (some (x0.extract 0 (x4 : Int).toNat,true)) else (none)) else (counterpaneref04_Parent.l0 k x0 (wrap64 (x4 - 1)))) else (none)) else (none)) else (some ((⟨#[]⟩ : ByteArray),false))
def counterpaneref04_Parent.f (k : Nat) (a0 : ByteArray) : Option (ByteArray × Bool):=counterpaneref04_Parent.l0 k a0 (wrap64 ((a0.size : Int) - 1))
theorem counterpaneref04_Parent.mono_l : ∀ k,(∀ y0 y1,LeO (counterpaneref04_Parent.l0 k y0 y1) (counterpaneref04_Parent.l0 (k + 1) y0 y1))
 | 0 => fun _ _ r h => by simp [counterpaneref04_Parent.l0] at h
 | k + 1 => by
  have ih0:=counterpaneref04_Parent.mono_l k
  ·intro y0 y1
   unfold counterpaneref04_Parent.l0
   repeat' first
   | (with_reducible exact ih0 _ _)
   | (with_reducible exact LeO.refl _)
   | (with_reducible exact LeO.none _)
   | (with_reducible refine LeO.ite ?_ ?_)
   | (with_reducible refine LeO.bind ?_ (fun _ => ?_))
   | exact ih0 _ _
   | exact LeO.none _
   | refine LeO.ite ?_ ?_
   | refine LeO.bind ?_ (fun _ => ?_)
theorem counterpaneref04_Parent.mono : ∀ a0 k,LeO (counterpaneref04_Parent.f k a0) (counterpaneref04_Parent.f (k + 1) a0):=by
 intro a0 k
 have ih0:=counterpaneref04_Parent.mono_l k
 unfold counterpaneref04_Parent.f
 repeat' first
   | (with_reducible exact ih0 _ _)
   | (with_reducible exact LeO.refl _)
   | (with_reducible exact LeO.none _)
   | (with_reducible refine LeO.ite ?_ ?_)
   | (with_reducible refine LeO.bind ?_ (fun _ => ?_))
   | exact ih0 _ _
   | exact LeO.none _
   | refine LeO.ite ?_ ?_
   | refine LeO.bind ?_ (fun _ => ?_)
set_option maxHeartbeats 8000000 in
set_option maxRecDepth 100000 in
theorem counterpaneref04_Parent.calls (k : Nat) (a0 : ByteArray) (r1 : ByteArray) (r2 : Bool) (w : World) (h : counterpaneref04_Parent.f k a0 = some (r1,r2)) :
  Calls Tryz.prog 35 #[.string a0] w fun e w' => e = .returned (.tuple #[.string r1,.bool r2]) ∧ Drawn0 w w':=by
 have H : (counterpaneref04_Parent.l0 k a0 (wrap64 ((a0.size : Int) - 1))) = some (r1,r2):=h
 clear h
 have H':=Aside0.mk H
 clear H
 go_enter Tryz.func35,Tryz.ntmps35
 go_wp2
 go_loopg [4] k (fun kq v4 w' => ∃ (x4_1 : Int),v4 = .int .i64 x4_1 ∧ Aside0 (counterpaneref04_Parent.l0 kq a0 x4_1 = some (r1,r2)) ∧ Aside0 (kq ≤ k) ∧ Drawn0 w w')
 case atStart => exact ⟨(wrap64 ((a0.size : Int) - 1)),(by first | rfl | (simp; done) | (simp [*]; done)),H',⟨Nat.le_refl _⟩,by repeat (first | exact Drawn0.refl _ | apply Drawn0.step)⟩
 case round =>
  clear H'
  obtain ⟨x4_1,rfl,HA,HK1,⟨m1,rfl⟩⟩:=hrel
  cases gk with
  | zero => exact absurd HA.out (by simp [counterpaneref04_Parent.l0])
  | succ k1 =>
   have H:=HA.out
   clear HA
   simp only [counterpaneref04_Parent.l0] at H
   by_cases c2 : x4_1 ≥ 0
   ·rw [if_pos c2] at H
    have c2b0 : decide (0 ≤ x4_1) = true:=decide_eq_true c2
    clear c2
    by_cases c3 : 0 ≤ x4_1
    ·rw [if_pos c3] at H
     have c3b0 : decide (0 ≤ x4_1) = true:=decide_eq_true c3
     clear c3
     by_cases c4 : x4_1 < (a0.size : Int)
     ·rw [if_pos c4] at H
      have c4b0 : decide (x4_1 < (a0.size : Int)) = true:=decide_eq_true c4
      clear c4
      by_cases c6 : (bt a0 x4_1) = 47
      ·rw [if_pos c6] at H
       have c6b0 : ((bt a0 x4_1) == 47) = true:=beq_iff_eq.mpr c6
       have c6b1 : ((bt a0 x4_1) != 47) = false:=bne_eq_false_iff_eq.mpr c6
       clear c6
       have c7b0:=eq_true (of_decide_eq_true (by first | (with_reducible assumption) | assumption) : 0 ≤ x4_1)
       by_cases c8 : x4_1 ≤ (a0.size : Int)
       ·rw [if_pos c8] at H
        have c8b0:=eq_true c8
        have c8b1 : decide (x4_1 ≤ (a0.size : Int)) = true:=decide_eq_true c8
        clear c8
        simp only [Option.some.injEq,Prod.mk.injEq] at H
        obtain ⟨rfl,rfl⟩:=H
        have p5 : 0 ≤ (x4_1 : Int):=of_decide_eq_true (by first | (with_reducible assumption) | assumption)
        have q5 : x4_1 < (a0.size : Int):=of_decide_eq_true (by first | (with_reducible assumption) | assumption)
        have hx5:=bt_at a0 x4_1
        replace p5:=eq_true p5
        replace q5:=eq_true q5
        go_wp2
        go_ret2
        exact ⟨by first | rfl | (simp; done) | (simp [*]; done) | (simp [show ∀ l : List UInt8,(l != []) = !l.isEmpty from fun l => by cases l <;> rfl]; done),by repeat (first | exact Drawn0.refl _ | apply Drawn0.step)⟩
       ·rw [if_neg c8] at H
        exact absurd H (by simp)
      ·rw [if_neg c6] at H
       have c6b0 : ((bt a0 x4_1) == 47) = false:=beq_eq_false_iff_ne.mpr c6
       have c6b1 : ((bt a0 x4_1) != 47) = true:=bne_iff_ne.mpr c6
       have H':=Aside0.mk H
       clear H
       have p5 : 0 ≤ (x4_1 : Int):=of_decide_eq_true (by first | (with_reducible assumption) | assumption)
       have q5 : x4_1 < (a0.size : Int):=of_decide_eq_true (by first | (with_reducible assumption) | assumption)
       have hx5:=bt_at a0 x4_1
       replace p5:=eq_true p5
       replace q5:=eq_true q5
       go_wp2
       go_roundg k1
       case measure => have:=HK1.out; omega
       case rel => exact ⟨(wrap64 (x4_1 - 1)),(by first | rfl | (simp; done) | (simp [*]; done)),H',⟨by have:=HK1.out; omega⟩,by repeat (first | exact Drawn0.refl _ | apply Drawn0.step)⟩
     ·rw [if_neg c4] at H
      exact absurd H (by simp)
    ·rw [if_neg c3] at H
     exact absurd H (by simp)
   ·rw [if_neg c2] at H
    have c2b0 : decide (0 ≤ x4_1) = false:=decide_eq_false c2
    clear c2
    simp only [Option.some.injEq,Prod.mk.injEq] at H
    obtain ⟨rfl,rfl⟩:=H
    go_wp2
    go_ret2
    exact ⟨by first | rfl | (simp; done) | (simp [*]; done) | (simp [show ∀ l : List UInt8,(l != []) = !l.isEmpty from fun l => by cases l <;> rfl]; done),by repeat (first | exact Drawn0.refl _ | apply Drawn0.step)⟩

end Go.Proofs.YthhohbidjhcjeaaGreatDoor.Q
namespace Go.Proofs.YthhohbidjhcjeaaGreatDoor.H
open Go.RowKit Go.Shelf Go.Proofs.YthhohbidjhcjeaaGreatDoorW.PrintWords Go.Proofs.YthhohbidjhcjeaaGreatDoorW.PrintLast Go.Proofs.YthhohbidjhcjeaaGreatDoorW.PrintMore
open Go.Proofs.YthhohbidjhcjeaaGreatDoor.Q Go.Proofs.YthhohbidjhcjeaaGreatDoor.Pl
set_option linter.unusedVariables false
set_option linter.unusedSimpArgs false
theorem find07_l (l : List S41) (s : ByteArray) (hn : l.length ≤ 140737488355328) : ∀ (d i : Nat),i + d = l.length →
  Ev (fun k => counterpaneref07_Find.l0 k l s (i : Int)) ((thingAt (l.drop i) s).f0,(thingAt (l.drop i) s).f1,(thingAt (l.drop i) s).f2,(thingAt (l.drop i) s).f3,(findV (l.drop i) s).isSome):=by
 intro d
 induction d with
 | zero =>
  intro i hi
  rw [List.drop_of_length_le (by omega)]
  refine Ev.step (f:=fun _ => some ((⟨#[]⟩ : ByteArray),0,([] : List ByteArray),(⟨#[]⟩ : ByteArray),false)) (fun k => ?_) (Ev.now _)
  simp only [counterpaneref07_Find.l0]
  rw [if_neg (by omega)]
 | succ d ih =>
  intro i hi
  have h1 : i < l.length:=by omega
  rw [List.drop_eq_getElem_cons h1]
  by_cases hc : l[i].f0 = s
  ·have hf : findV (l[i] :: l.drop (i + 1)) s = some l[i]:=by rw [find_cons,if_pos hc]
   have ht : thingAt (l[i] :: l.drop (i + 1)) s = l[i]:=by unfold thingAt; rw [hf]; rfl
   rw [ht,hf]
   refine Ev.step (f:=fun _ => some (l[i].f0,l[i].f1,l[i].f2,l[i].f3,true)) (fun k => ?_) (Ev.now _)
   simp only [counterpaneref07_Find.l0]
   rw [if_pos (by omega),if_pos (by omega),rd_T41_get _ h1,if_pos (by rw [hc])]
  ·have hf : findV (l[i] :: l.drop (i + 1)) s = findV (l.drop (i + 1)) s:=by rw [find_cons,if_neg hc]
   have ht : thingAt (l[i] :: l.drop (i + 1)) s = thingAt (l.drop (i + 1)) s:=by unfold thingAt; rw [hf]
   rw [ht,hf]
   refine Ev.step (f:=fun k => counterpaneref07_Find.l0 k l s ((i + 1 : Nat) : Int)) (fun k => ?_) (ih (i + 1) (by omega))
   simp only [counterpaneref07_Find.l0]
   rw [if_pos (by omega),if_pos (by omega),rd_T41_get _ h1,if_neg (fun h => hc (toList_inj h)),wrap_1 h1 hn]
/-- What lies at a path, of any things known at a world that grew. -/
theorem find_at (l : List S41) (A : Option Addr) (c : Nat) (s : ByteArray) (w : World) (hr : Kd.C k41 w A l.length l) (hc : l.length ≤ c) (hn : l.length ≤ 140737488355328) :
  ∀ U,Below w.heap.size w U → Calls Tryz.prog 33 #[.slice A l.length c,.string s] U fun e w' => ∃ X d,e = .returned (.tuple #[.agg #[.string (thingAt l s).f0,.int .i64 (thingAt l s).f1,.slice X (thingAt l s).f2.length d,.string (thingAt l s).f3],.bool (findV l s).isSome]) ∧
   (thingAt l s).f2.length ≤ d ∧ Kd.string.C w' X (thingAt l s).f2.length (thingAt l s).f2 ∧ Below U.heap.size U w':=by
 intro U hU
 obtain ⟨k,hk⟩:=(find07_l l s hn l.length 0 (by omega)).rounds
 rw [List.drop_zero] at hk
 refine (counterpaneref07_Find.calls k (fun k => k < U.heap.size) A c l s _ _ _ _ _ U (Kd.V_mk hc (Kd.C_F k41_heap (Kd.C_below hr hU))) hk).mono ?_
 rintro e w' ⟨v,rfl,hV,hb⟩
 obtain ⟨X,d,rfl,hd,hF⟩:=hV
 exact ⟨X,d,rfl,hd,Kd.F_now hF,hb⟩
theorem parent04_l (p : ByteArray) (hn : p.size ≤ 140737488355328) : ∀ (i : Nat),i ≤ p.size → (∀ j,i ≤ j → p.data.toList[j]? ≠ some 47) →
  Ev (fun k => counterpaneref04_Parent.l0 k p ((i : Int) - 1)) ((parentV p).getD ⟨#[]⟩,(parentV p).isSome):=by
 intro i
 induction i with
 | zero =>
  intro _ hno
  have hp : parentV p = none:=by
   rcases parent_cases p with ⟨h,_⟩ | ⟨q,t,h,hd,_⟩
   ·exact h
   ·have:=hno q.data.toList.length (by omega)
    rw [hd,List.getElem?_append_right (by omega),Nat.sub_self] at this
    exact absurd rfl this
  rw [hp]
  refine Ev.step (f:=fun _ => some ((⟨#[]⟩ : ByteArray),false)) (fun k => ?_) (Ev.now _)
  simp only [counterpaneref04_Parent.l0]
  rw [if_neg (by omega)]
 | succ i ih =>
  intro hi hno
  have h1 : i < p.size:=by omega
  have hl : i < p.data.toList.length:=by rw [dlen]; exact h1
  have e1 : (((i + 1 : Nat) : Int) - 1) = (i : Int):=by omega
  rw [e1]
  by_cases hc : p.data.toList[i] = 47
  ·have hp : parentV p = some (p.extract 0 i):=by
    refine parent_eq (t:=p.data.toList.drop (i + 1)) ?_ ?_
    ·rw [extract_data,List.drop_zero]
     have h2:=List.drop_eq_getElem_cons hl
     rw [hc] at h2
     rw [← h2,List.take_append_drop]
    ·intro hm
     obtain ⟨j,hj,e⟩:=List.getElem_of_mem hm
     rw [List.length_drop] at hj
     rw [List.getElem_drop] at e
     exact hno (i + 1 + j) (by omega) (by rw [List.getElem?_eq_getElem (by omega),e])
   rw [hp]
   refine Ev.step (f:=fun _ => some (p.extract 0 i,true)) (fun k => ?_) (Ev.now _)
   simp only [counterpaneref04_Parent.l0]
   rw [if_pos (by omega),if_pos (by omega),if_pos (by omega),bt_get p i h1,hc,if_pos (by rfl),if_pos (by omega),Int.toNat_natCast]
  ·refine Ev.step (f:=fun k => counterpaneref04_Parent.l0 k p ((i : Int) - 1)) (fun k => ?_) (ih (by omega) (fun j hj e => ?_))
   ·simp only [counterpaneref04_Parent.l0]
    rw [if_pos (by omega),if_pos (by omega),if_pos (by omega),bt_get p i h1,if_neg (fun h => hc (u8_47 h)),wrap_id (by omega) (by omega)]
   ·rcases Nat.lt_or_ge i j with h | h
    ·exact hno j (by omega) e
    ·have : j = i:=by omega
     subst this
     rw [List.getElem?_eq_getElem hl] at e
     exact hc (Option.some.inj e)
theorem parentR_at (p : ByteArray) (hn : p.size ≤ 140737488355328) (U : World) : Calls Tryz.prog 35 #[.string p] U fun e w' => e = .returned (.tuple #[.string ((parentV p).getD ⟨#[]⟩),.bool (parentV p).isSome]) ∧ Below U.heap.size U w':=by
 obtain ⟨k,hk⟩:=(parent04_l p hn p.size (Nat.le_refl _) (fun j hj e => by
  have:=(List.getElem?_eq_some_iff.1 e).1
  rw [dlen] at this
  omega)).rounds
 refine (counterpaneref04_Parent.calls k p _ _ U ?_).mono fun e w' h => ⟨h.1,h.2.below⟩
 unfold counterpaneref04_Parent.f
 rw [wrap_id (by omega) (by omega)]
 exact hk
theorem rightR_at (p : ByteArray) (hn : p.size ≤ 140737488355328) (U : World) : Calls Tryz.prog 36 #[.string p] U fun e w' => e = .returned (.bool (rightB p)) ∧ Below U.heap.size U w':=by
 obtain ⟨k,hk⟩:=(refRight p hn).rounds
 exact (counterpaneref04_Right.calls k p _ U hk).mono fun e w' h => ⟨h.1,h.2.below⟩
theorem apartR_at (p q : ByteArray) (U : World) : Calls Tryz.prog 32 #[.string p,.string q] U fun e w' => e = .returned (.bool (apartB p q)) ∧ Below U.heap.size U w' :=
 (counterpaneref04_Apart.calls p q _ U (refApart_f p q)).mono fun e w' h => ⟨h.1,h.2.below⟩
theorem withinR_at (p q : ByteArray) (U : World) : Calls Tryz.prog 74 #[.string p,.string q] U fun e w' => e = .returned (.bool (withinB p q)) ∧ Below U.heap.size U w' :=
 (counterpaneref04_Within.calls p q _ U (refWithin_f p q)).mono fun e w' h => ⟨h.1,h.2.below⟩
theorem linesR_at (l : List ByteArray) (A : Option Addr) (c : Nat) (U : World) (hn : l.length ≤ 140737488355328) (hs : ∀ x ∈ l,x.size ≤ 140737488355328) (hr : Kd.string.C U A l.length l) (hc : l.length ≤ c) :
  Calls Tryz.prog 70 #[.slice A l.length c] U fun e w' => e = .returned (.bool (linesB l)) ∧ Below U.heap.size U w':=by
 obtain ⟨k,hk⟩:=(refLinesRight l hn hs).rounds
 exact (counterpaneref05_Right.calls k A c l _ U hr hc hk).mono fun e w' h => ⟨h.1,h.2.below⟩
end Go.Proofs.YthhohbidjhcjeaaGreatDoor.H
