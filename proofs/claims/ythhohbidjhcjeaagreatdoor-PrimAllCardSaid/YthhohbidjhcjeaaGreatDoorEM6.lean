/- Printed by a program of this place out of the translation: what the functions compute, and their contracts. -/
import Derived.Test.YthhohbidjhcjeaaGreatDoorEM1
import Derived.Test.YthhohbidjhcjeaaGreatDoorEM2
import Derived.Laws.RangeAny
namespace Go.Proofs.YthhohbidjhcjeaaGreatDoor.Q
open Go.RowKit Go.Proofs.YthhohbidjhcjeaaGreatDoorW.PrintWords Go.Proofs.YthhohbidjhcjeaaGreatDoorW.PrintLast Go.Proofs.YthhohbidjhcjeaaGreatDoorW.PrintMore
attribute [local go_sem] max2_int min2_int max_two min_two max_three min_three max_four min_four   -- for this text's walks alone
set_option linter.unusedVariables false
set_option linter.unusedSimpArgs false

mutual
def counterpaneref04_part.j0 : Nat → ByteArray → Bool → Option (Bool)
 | 0,_,_ => none
 | k + 1,x0,x20 => if x20 = true then (some false) else (counterpaneref04_part.l0 k x0 0)
def counterpaneref04_part.l0 : Nat → ByteArray → Int → Option (Bool)
 | 0,_,_ => none
 | k + 1,x0,x3 => if x3 < (x0.size : Int) then (if 0 ≤ x3 then (if (bt x0 x3) = 46 then (counterpaneref04_part.l0 k x0 (wrap64 (x3 + 1))) else (if (bt x0 x3) = 95 then (counterpaneref04_part.l0 k x0 (wrap64 (x3 + 1))) else (if (bt x0 x3) = 45 then (counterpaneref04_part.l0 k x0 (wrap64 (x3 + 1))) else (if (bt x0 x3) < 97 then (if (bt x0 x3) < 48 then (some false) else (if (bt x0 x3) > 57 then (some false) else (counterpaneref04_part.l0 k x0 (wrap64 (x3 + 1))))) else (if (bt x0 x3) > 122 then (if (bt x0 x3) < 48 then (some false) else (if (bt x0 x3) > 57 then (some false) else (counterpaneref04_part.l0 k x0 (wrap64 (x3 + 1))))) else (counterpaneref04_part.l0 k x0 (wrap64 (x3 + 1)))))))) else (none)) else (some true)
end
def counterpaneref04_part.f (k : Nat) (a0 : ByteArray) : Option (Bool):=if (a0.size : Int) < 1 then (counterpaneref04_part.j0 k a0 true) else (if (a0.size : Int) > 16 then (counterpaneref04_part.j0 k a0 true) else (if a0.toList = ([46] : List UInt8) then (counterpaneref04_part.j0 k a0 true) else (counterpaneref04_part.j0 k a0 (a0.toList == ([46,46] : List UInt8)))))
theorem counterpaneref04_part.mono_l : ∀ k,(∀ y0 y1,LeO (counterpaneref04_part.j0 k y0 y1) (counterpaneref04_part.j0 (k + 1) y0 y1)) ∧ (∀ y0 y1,LeO (counterpaneref04_part.l0 k y0 y1) (counterpaneref04_part.l0 (k + 1) y0 y1))
 | 0 => ⟨fun _ _ r h => by simp [counterpaneref04_part.j0] at h,fun _ _ r h => by simp [counterpaneref04_part.l0] at h⟩
 | k + 1 => by
  obtain ⟨ih0,ih1⟩:=counterpaneref04_part.mono_l k
  refine ⟨?_,?_⟩
  ·intro y0 y1
   unfold counterpaneref04_part.j0
   repeat' first
   | (with_reducible exact ih0 _ _)
   | (with_reducible exact ih1 _ _)
   | (with_reducible exact LeO.refl _)
   | (with_reducible exact LeO.none _)
   | (with_reducible refine LeO.ite ?_ ?_)
   | (with_reducible refine LeO.bind ?_ (fun _ => ?_))
   | exact ih0 _ _
   | exact ih1 _ _
   | exact LeO.none _
   | refine LeO.ite ?_ ?_
   | refine LeO.bind ?_ (fun _ => ?_)
  ·intro y0 y1
   unfold counterpaneref04_part.l0
   repeat' first
   | (with_reducible exact ih0 _ _)
   | (with_reducible exact ih1 _ _)
   | (with_reducible exact LeO.refl _)
   | (with_reducible exact LeO.none _)
   | (with_reducible refine LeO.ite ?_ ?_)
   | (with_reducible refine LeO.bind ?_ (fun _ => ?_))
   | exact ih0 _ _
   | exact ih1 _ _
   | exact LeO.none _
   | refine LeO.ite ?_ ?_
   | refine LeO.bind ?_ (fun _ => ?_)
theorem counterpaneref04_part.mono : ∀ a0 k,LeO (counterpaneref04_part.f k a0) (counterpaneref04_part.f (k + 1) a0):=by
 intro a0 k
 obtain ⟨ih0,ih1⟩:=counterpaneref04_part.mono_l k
 unfold counterpaneref04_part.f
 repeat' first
   | (with_reducible exact ih0 _ _)
   | (with_reducible exact ih1 _ _)
   | (with_reducible exact LeO.refl _)
   | (with_reducible exact LeO.none _)
   | (with_reducible refine LeO.ite ?_ ?_)
   | (with_reducible refine LeO.bind ?_ (fun _ => ?_))
   | exact ih0 _ _
   | exact ih1 _ _
   | exact LeO.none _
   | refine LeO.ite ?_ ?_
   | refine LeO.bind ?_ (fun _ => ?_)
set_option maxHeartbeats 8000000 in
set_option maxRecDepth 100000 in
theorem counterpaneref04_part.calls (k : Nat) (a0 : ByteArray) (r : Bool) (w : World) (h : counterpaneref04_part.f k a0 = some r) :
  Calls Tryz.prog 75 #[.string a0] w fun e w' => e = .returned (.bool r) ∧ Drawn0 w w':=by
 have H : (if (a0.size : Int) < 1 then (counterpaneref04_part.j0 k a0 true) else (if (a0.size : Int) > 16 then (counterpaneref04_part.j0 k a0 true) else (if a0.toList = ([46] : List UInt8) then (counterpaneref04_part.j0 k a0 true) else (counterpaneref04_part.j0 k a0 (a0.toList == ([46,46] : List UInt8)))))) = some r:=h
 clear h
 have HC2:=Aside0.mk H
 clear H
 go_enter Tryz.func75,Tryz.ntmps75
 go_upto_region 1 with (fail)
 go_cut [20] (fun v20 wc => ∃ (kq : Nat) (x20_1 : Bool),v20 = .bool x20_1 ∧ Aside0 (counterpaneref04_part.j0 kq a0 x20_1 = some r) ∧ Aside0 (kq ≤ k) ∧ Drawn0 w wc)
 case first =>
  have H:=HC2.out
  clear HC2
  by_cases c3 : (a0.size : Int) < 1
  ·rw [if_pos c3] at H
   have c3b0 : decide ((a0.size : Int) < 1) = true:=decide_eq_true c3
   have c3b1 : decide (a0.size < 1) = true:=decide_eq_true (by omega)
   clear c3
   (first | rw [c3b0] | (simp only [i64_w,i32_w]; rw [c3b0]) | skip)
   have H':=Aside0.mk H
   clear H
   go_wp2
   go_meet
   case rel => exact ⟨_,(true),(by first | rfl | (simp; done) | (simp [*]; done)),H',⟨by first | omega | exact Nat.le_refl _⟩,by repeat (first | exact Drawn0.refl _ | apply Drawn0.step)⟩
  ·rw [if_neg c3] at H
   have c3b0 : decide ((a0.size : Int) < 1) = false:=decide_eq_false c3
   have c3b1 : decide (a0.size < 1) = false:=decide_eq_false (by omega)
   clear c3
   (first | rw [c3b0] | (simp only [i64_w,i32_w]; rw [c3b0]) | skip)
   by_cases c4 : (a0.size : Int) > 16
   ·rw [if_pos c4] at H
    have c4b0 : decide (16 < (a0.size : Int)) = true:=decide_eq_true c4
    have c4b1 : decide (16 < a0.size) = true:=decide_eq_true (by omega)
    clear c4
    have H':=Aside0.mk H
    clear H
    go_wp2
    go_meet
    case rel => exact ⟨_,(true),(by first | rfl | (simp; done) | (simp [*]; done)),H',⟨by first | omega | exact Nat.le_refl _⟩,by repeat (first | exact Drawn0.refl _ | apply Drawn0.step)⟩
   ·rw [if_neg c4] at H
    have c4b0 : decide (16 < (a0.size : Int)) = false:=decide_eq_false c4
    have c4b1 : decide (16 < a0.size) = false:=decide_eq_false (by omega)
    clear c4
    by_cases c5 : a0.toList = ([46] : List UInt8)
    ·rw [if_pos c5] at H
     have c5b0 : (a0.toList == ([46] : List UInt8)) = true:=beq_iff_eq.mpr c5
     have c5b1 : (a0.toList != ([46] : List UInt8)) = false:=bne_eq_false_iff_eq.mpr c5
     clear c5
     have H':=Aside0.mk H
     clear H
     go_wp2
     go_meet
     case rel => exact ⟨_,(true),(by first | rfl | (simp; done) | (simp [*]; done)),H',⟨by first | omega | exact Nat.le_refl _⟩,by repeat (first | exact Drawn0.refl _ | apply Drawn0.step)⟩
    ·rw [if_neg c5] at H
     have c5b0 : (a0.toList == ([46] : List UInt8)) = false:=beq_eq_false_iff_ne.mpr c5
     have c5b1 : (a0.toList != ([46] : List UInt8)) = true:=bne_iff_ne.mpr c5
     have H':=Aside0.mk H
     clear H
     go_wp2
     go_meet
     case rel => exact ⟨_,((a0.toList == ([46,46] : List UInt8))),(by first | rfl | (simp; done) | (simp [*]; done)),H',⟨by first | omega | exact Nat.le_refl _⟩,by repeat (first | exact Drawn0.refl _ | apply Drawn0.step)⟩
 case rest =>
  clear HC2
  try clear p2
  try clear c3
  try clear c3b0
  try clear c3b1
  try clear c4
  try clear c4b0
  try clear c4b1
  try clear c5
  try clear c5b0
  try clear c5b1
  obtain ⟨kq,x20_1,rfl,HA,HJ1,⟨mc1,rfl⟩⟩:=hcut
  cases kq with
  | zero => exact absurd HA.out (by simp [counterpaneref04_part.j0])
  | succ kj1 =>
   have H:=HA.out
   clear HA
   simp only [counterpaneref04_part.j0] at H
   by_cases c6 : x20_1 = true
   ·subst c6
    have H1 : (some false) = some r:=by rw [if_pos rfl] at H; exact H
    clear H
    have H:=H1
    clear H1
    obtain rfl:=Option.some.inj H
    go_wp2
    go_ret
    exact ⟨by first | rfl | (simp; done) | (simp [*]; done) | (simp [show ∀ l : List UInt8,(l != []) = !l.isEmpty from fun l => by cases l <;> rfl]; done),by repeat (first | exact Drawn0.refl _ | apply Drawn0.step)⟩
   ·replace c6:=Bool.eq_false_iff.mpr c6
    subst c6
    have H1 : (counterpaneref04_part.l0 kj1 a0 0) = some r:=by rw [if_neg (show ¬ (false = true) by decide)] at H; exact H
    clear H
    have H:=H1
    clear H1
    have H':=Aside0.mk H
    clear H
    go_wp2
    go_loopg [3] kj1 (fun kq v3 w' => ∃ (x3_2 : Int),v3 = .int .i64 x3_2 ∧ Aside0 (counterpaneref04_part.l0 kq a0 x3_2 = some r) ∧ Aside0 (kq ≤ kj1) ∧ Drawn0 w w')
    case atStart => exact ⟨(0),(by first | rfl | (simp; done) | (simp [*]; done)),H',⟨Nat.le_refl _⟩,by repeat (first | exact Drawn0.refl _ | apply Drawn0.step)⟩
    case round =>
     clear H'
     try clear c1
     try clear p2
     try clear c3
     try clear c3b0
     try clear c3b1
     try clear c4
     try clear c4b0
     try clear c4b1
     try clear c5
     try clear c5b0
     try clear c5b1
     try clear c6
     try clear p2
     obtain ⟨x3_2,rfl,HA,HK2,⟨m2,rfl⟩⟩:=hrel
     cases gk with
     | zero => exact absurd HA.out (by simp [counterpaneref04_part.l0])
     | succ k2 =>
      have H:=HA.out
      clear HA
      simp only [counterpaneref04_part.l0] at H
      by_cases c7 : x3_2 < (a0.size : Int)
      ·rw [if_pos c7] at H
       have c7b0 : decide (x3_2 < (a0.size : Int)) = true:=decide_eq_true c7
       clear c7
       by_cases c8 : 0 ≤ x3_2
       ·rw [if_pos c8] at H
        have c8b0 : decide (0 ≤ x3_2) = true:=decide_eq_true c8
        clear c8
        by_cases c10 : (bt a0 x3_2) = 46
        ·rw [if_pos c10] at H
         have c10b0 : ((bt a0 x3_2) == 46) = true:=beq_iff_eq.mpr c10
         have c10b1 : ((bt a0 x3_2) != 46) = false:=bne_eq_false_iff_eq.mpr c10
         clear c10
         have H':=Aside0.mk H
         clear H
         have p9 : 0 ≤ (x3_2 : Int):=of_decide_eq_true (by first | (with_reducible assumption) | assumption)
         have q9 : x3_2 < (a0.size : Int):=of_decide_eq_true (by first | (with_reducible assumption) | assumption)
         have hx9:=bt_at a0 x3_2
         replace p9:=eq_true p9
         replace q9:=eq_true q9
         go_wp2
         go_roundg k2
         case measure => have:=HJ1.out; have:=HK2.out; omega
         case rel => exact ⟨(wrap64 (x3_2 + 1)),(by first | rfl | (simp; done) | (simp [*]; done)),H',⟨by have:=HJ1.out; have:=HK2.out; omega⟩,by repeat (first | exact Drawn0.refl _ | apply Drawn0.step)⟩
        ·rw [if_neg c10] at H
         have c10b0 : ((bt a0 x3_2) == 46) = false:=beq_eq_false_iff_ne.mpr c10
         have c10b1 : ((bt a0 x3_2) != 46) = true:=bne_iff_ne.mpr c10
         by_cases c11 : (bt a0 x3_2) = 95
         ·rw [if_pos c11] at H
          have c11b0 : ((bt a0 x3_2) == 95) = true:=beq_iff_eq.mpr c11
          have c11b1 : ((bt a0 x3_2) != 95) = false:=bne_eq_false_iff_eq.mpr c11
          clear c11
          have H':=Aside0.mk H
          clear H
          have p9 : 0 ≤ (x3_2 : Int):=of_decide_eq_true (by first | (with_reducible assumption) | assumption)
          have q9 : x3_2 < (a0.size : Int):=of_decide_eq_true (by first | (with_reducible assumption) | assumption)
          have hx9:=bt_at a0 x3_2
          replace p9:=eq_true p9
          replace q9:=eq_true q9
          go_wp2
          go_roundg k2
          case measure => have:=HJ1.out; have:=HK2.out; omega
          case rel => exact ⟨(wrap64 (x3_2 + 1)),(by first | rfl | (simp; done) | (simp [*]; done)),H',⟨by have:=HJ1.out; have:=HK2.out; omega⟩,by repeat (first | exact Drawn0.refl _ | apply Drawn0.step)⟩
         ·rw [if_neg c11] at H
          have c11b0 : ((bt a0 x3_2) == 95) = false:=beq_eq_false_iff_ne.mpr c11
          have c11b1 : ((bt a0 x3_2) != 95) = true:=bne_iff_ne.mpr c11
          by_cases c12 : (bt a0 x3_2) = 45
          ·rw [if_pos c12] at H
           have c12b0 : ((bt a0 x3_2) == 45) = true:=beq_iff_eq.mpr c12
           have c12b1 : ((bt a0 x3_2) != 45) = false:=bne_eq_false_iff_eq.mpr c12
           clear c12
           have H':=Aside0.mk H
           clear H
           have p9 : 0 ≤ (x3_2 : Int):=of_decide_eq_true (by first | (with_reducible assumption) | assumption)
           have q9 : x3_2 < (a0.size : Int):=of_decide_eq_true (by first | (with_reducible assumption) | assumption)
           have hx9:=bt_at a0 x3_2
           replace p9:=eq_true p9
           replace q9:=eq_true q9
           go_wp2
           go_roundg k2
           case measure => have:=HJ1.out; have:=HK2.out; omega
           case rel => exact ⟨(wrap64 (x3_2 + 1)),(by first | rfl | (simp; done) | (simp [*]; done)),H',⟨by have:=HJ1.out; have:=HK2.out; omega⟩,by repeat (first | exact Drawn0.refl _ | apply Drawn0.step)⟩
          ·rw [if_neg c12] at H
           have c12b0 : ((bt a0 x3_2) == 45) = false:=beq_eq_false_iff_ne.mpr c12
           have c12b1 : ((bt a0 x3_2) != 45) = true:=bne_iff_ne.mpr c12
           by_cases c13 : (bt a0 x3_2) < 97
           ·rw [if_pos c13] at H
            have c13b0 : decide ((bt a0 x3_2) < 97) = true:=decide_eq_true c13
            clear c13
            by_cases c14 : (bt a0 x3_2) < 48
            ·rw [if_pos c14] at H
             have c14b0 : decide ((bt a0 x3_2) < 48) = true:=decide_eq_true c14
             clear c14
             obtain rfl:=Option.some.inj H
             have p9 : 0 ≤ (x3_2 : Int):=of_decide_eq_true (by first | (with_reducible assumption) | assumption)
             have q9 : x3_2 < (a0.size : Int):=of_decide_eq_true (by first | (with_reducible assumption) | assumption)
             have hx9:=bt_at a0 x3_2
             replace p9:=eq_true p9
             replace q9:=eq_true q9
             go_wp2
             go_ret
             exact ⟨by first | rfl | (simp; done) | (simp [*]; done) | (simp [show ∀ l : List UInt8,(l != []) = !l.isEmpty from fun l => by cases l <;> rfl]; done),by repeat (first | exact Drawn0.refl _ | apply Drawn0.step)⟩
            ·rw [if_neg c14] at H
             have c14b0 : decide ((bt a0 x3_2) < 48) = false:=decide_eq_false c14
             clear c14
             by_cases c15 : (bt a0 x3_2) > 57
             ·rw [if_pos c15] at H
              have c15b0 : decide (57 < (bt a0 x3_2)) = true:=decide_eq_true c15
              clear c15
              obtain rfl:=Option.some.inj H
              have p9 : 0 ≤ (x3_2 : Int):=of_decide_eq_true (by first | (with_reducible assumption) | assumption)
              have q9 : x3_2 < (a0.size : Int):=of_decide_eq_true (by first | (with_reducible assumption) | assumption)
              have hx9:=bt_at a0 x3_2
              replace p9:=eq_true p9
              replace q9:=eq_true q9
              go_wp2
              go_ret
              exact ⟨by first | rfl | (simp; done) | (simp [*]; done) | (simp [show ∀ l : List UInt8,(l != []) = !l.isEmpty from fun l => by cases l <;> rfl]; done),by repeat (first | exact Drawn0.refl _ | apply Drawn0.step)⟩
             ·rw [if_neg c15] at H
              have c15b0 : decide (57 < (bt a0 x3_2)) = false:=decide_eq_false c15
              clear c15
              have H':=Aside0.mk H
              clear H
              have p9 : 0 ≤ (x3_2 : Int):=of_decide_eq_true (by first | (with_reducible assumption) | assumption)
              have q9 : x3_2 < (a0.size : Int):=of_decide_eq_true (by first | (with_reducible assumption) | assumption)
              have hx9:=bt_at a0 x3_2
              replace p9:=eq_true p9
              replace q9:=eq_true q9
              go_wp2
              go_roundg k2
              case measure => have:=HJ1.out; have:=HK2.out; omega
              case rel => exact ⟨(wrap64 (x3_2 + 1)),(by first | rfl | (simp; done) | (simp [*]; done)),H',⟨by have:=HJ1.out; have:=HK2.out; omega⟩,by repeat (first | exact Drawn0.refl _ | apply Drawn0.step)⟩
           ·rw [if_neg c13] at H
            have c13b0 : decide ((bt a0 x3_2) < 97) = false:=decide_eq_false c13
            clear c13
            by_cases c16 : (bt a0 x3_2) > 122
            ·rw [if_pos c16] at H
             have c16b0 : decide (122 < (bt a0 x3_2)) = true:=decide_eq_true c16
             clear c16
             by_cases c17 : (bt a0 x3_2) < 48
             ·rw [if_pos c17] at H
              have c17b0 : decide ((bt a0 x3_2) < 48) = true:=decide_eq_true c17
              clear c17
              obtain rfl:=Option.some.inj H
              have p9 : 0 ≤ (x3_2 : Int):=of_decide_eq_true (by first | (with_reducible assumption) | assumption)
              have q9 : x3_2 < (a0.size : Int):=of_decide_eq_true (by first | (with_reducible assumption) | assumption)
              have hx9:=bt_at a0 x3_2
              replace p9:=eq_true p9
              replace q9:=eq_true q9
              go_wp2
              go_ret
              exact ⟨by first | rfl | (simp; done) | (simp [*]; done) | (simp [show ∀ l : List UInt8,(l != []) = !l.isEmpty from fun l => by cases l <;> rfl]; done),by repeat (first | exact Drawn0.refl _ | apply Drawn0.step)⟩
             ·rw [if_neg c17] at H
              have c17b0 : decide ((bt a0 x3_2) < 48) = false:=decide_eq_false c17
              clear c17
              by_cases c18 : (bt a0 x3_2) > 57
              ·rw [if_pos c18] at H
               have c18b0 : decide (57 < (bt a0 x3_2)) = true:=decide_eq_true c18
               clear c18
               obtain rfl:=Option.some.inj H
               have p9 : 0 ≤ (x3_2 : Int):=of_decide_eq_true (by first | (with_reducible assumption) | assumption)
               have q9 : x3_2 < (a0.size : Int):=of_decide_eq_true (by first | (with_reducible assumption) | assumption)
               have hx9:=bt_at a0 x3_2
               replace p9:=eq_true p9
               replace q9:=eq_true q9
               go_wp2
               go_ret
               exact ⟨by first | rfl | (simp; done) | (simp [*]; done) | (simp [show ∀ l : List UInt8,(l != []) = !l.isEmpty from fun l => by cases l <;> rfl]; done),by repeat (first | exact Drawn0.refl _ | apply Drawn0.step)⟩
              ·rw [if_neg c18] at H
               have c18b0 : decide (57 < (bt a0 x3_2)) = false:=decide_eq_false c18
               clear c18
               have H':=Aside0.mk H
               clear H
               have p9 : 0 ≤ (x3_2 : Int):=of_decide_eq_true (by first | (with_reducible assumption) | assumption)
               have q9 : x3_2 < (a0.size : Int):=of_decide_eq_true (by first | (with_reducible assumption) | assumption)
               have hx9:=bt_at a0 x3_2
               replace p9:=eq_true p9
               replace q9:=eq_true q9
               go_wp2
               go_roundg k2
               case measure => have:=HJ1.out; have:=HK2.out; omega
               case rel => exact ⟨(wrap64 (x3_2 + 1)),(by first | rfl | (simp; done) | (simp [*]; done)),H',⟨by have:=HJ1.out; have:=HK2.out; omega⟩,by repeat (first | exact Drawn0.refl _ | apply Drawn0.step)⟩
            ·rw [if_neg c16] at H
             have c16b0 : decide (122 < (bt a0 x3_2)) = false:=decide_eq_false c16
             clear c16
             have H':=Aside0.mk H
             clear H
             have p9 : 0 ≤ (x3_2 : Int):=of_decide_eq_true (by first | (with_reducible assumption) | assumption)
             have q9 : x3_2 < (a0.size : Int):=of_decide_eq_true (by first | (with_reducible assumption) | assumption)
             have hx9:=bt_at a0 x3_2
             replace p9:=eq_true p9
             replace q9:=eq_true q9
             go_wp2
             go_roundg k2
             case measure => have:=HJ1.out; have:=HK2.out; omega
             case rel => exact ⟨(wrap64 (x3_2 + 1)),(by first | rfl | (simp; done) | (simp [*]; done)),H',⟨by have:=HJ1.out; have:=HK2.out; omega⟩,by repeat (first | exact Drawn0.refl _ | apply Drawn0.step)⟩
       ·rw [if_neg c8] at H
        exact absurd H (by simp)
      ·rw [if_neg c7] at H
       have c7b0 : decide (x3_2 < (a0.size : Int)) = false:=decide_eq_false c7
       clear c7
       obtain rfl:=Option.some.inj H
       go_wp2
       go_ret
       exact ⟨by first | rfl | (simp; done) | (simp [*]; done) | (simp [show ∀ l : List UInt8,(l != []) = !l.isEmpty from fun l => by cases l <;> rfl]; done),by repeat (first | exact Drawn0.refl _ | apply Drawn0.step)⟩

mutual
def counterpaneref04_Right.l0 : Nat → ByteArray → Int → Int → Int → Option (Bool)
 | 0,_,_,_,_ => none
 | k + 1,x0,x3,x4,x5 => if x5 ≤ (x0.size : Int) then (if x5 < (x0.size : Int) then (if 0 ≤ x5 then (counterpaneref04_Right.j1 k x0 x3 x4 x5 ((bt x0 x5) != 47)) else (none)) else (counterpaneref04_Right.j1 k x0 x3 x4 x5 false)) else (some (decide (x3 ≤ 8)))
def counterpaneref04_Right.j1 : Nat → ByteArray → Int → Int → Int → Bool → Option (Bool)
 | 0,_,_,_,_,_ => none
 | k + 1,x0,x3,x4,x5,x21 => if x21 = true then (counterpaneref04_Right.l0 k x0 x3 x4 (wrap64 (x5 + 1))) else (if 0 ≤ x4 then (if x4 ≤ x5 then (if x5 ≤ (x0.size : Int) then ((counterpaneref04_part.f k (x0.extract (x4 : Int).toNat (x5 : Int).toNat)).bind fun t193 => (if t193 = true then (counterpaneref04_Right.l0 k x0 (wrap64 (x3 + 1)) (wrap64 (x5 + 1)) (wrap64 (x5 + 1))) else (some false))) else (none)) else (none)) else (none))
end
def counterpaneref04_Right.f (k : Nat) (a0 : ByteArray) : Option (Bool):=counterpaneref04_Right.l0 k a0 0 0 0
theorem counterpaneref04_Right.mono_l : ∀ k,(∀ y0 y1 y2 y3,LeO (counterpaneref04_Right.l0 k y0 y1 y2 y3) (counterpaneref04_Right.l0 (k + 1) y0 y1 y2 y3)) ∧ (∀ y0 y1 y2 y3 y4,LeO (counterpaneref04_Right.j1 k y0 y1 y2 y3 y4) (counterpaneref04_Right.j1 (k + 1) y0 y1 y2 y3 y4))
 | 0 => ⟨fun _ _ _ _ r h => by simp [counterpaneref04_Right.l0] at h,fun _ _ _ _ _ r h => by simp [counterpaneref04_Right.j1] at h⟩
 | k + 1 => by
  obtain ⟨ih0,ih1⟩:=counterpaneref04_Right.mono_l k
  refine ⟨?_,?_⟩
  ·intro y0 y1 y2 y3
   unfold counterpaneref04_Right.l0
   repeat' first
   | (with_reducible exact ih0 _ _ _ _)
   | (with_reducible exact ih1 _ _ _ _ _)
   | (with_reducible exact counterpaneref04_part.mono _ _)
   | (with_reducible exact LeO.refl _)
   | (with_reducible exact LeO.none _)
   | (with_reducible refine LeO.ite ?_ ?_)
   | (with_reducible refine LeO.bind ?_ (fun _ => ?_))
   | exact ih0 _ _ _ _
   | exact ih1 _ _ _ _ _
   | exact counterpaneref04_part.mono _ _
   | exact LeO.none _
   | refine LeO.ite ?_ ?_
   | refine LeO.bind ?_ (fun _ => ?_)
  ·intro y0 y1 y2 y3 y4
   unfold counterpaneref04_Right.j1
   repeat' first
   | (with_reducible exact ih0 _ _ _ _)
   | (with_reducible exact ih1 _ _ _ _ _)
   | (with_reducible exact counterpaneref04_part.mono _ _)
   | (with_reducible exact LeO.refl _)
   | (with_reducible exact LeO.none _)
   | (with_reducible refine LeO.ite ?_ ?_)
   | (with_reducible refine LeO.bind ?_ (fun _ => ?_))
   | exact ih0 _ _ _ _
   | exact ih1 _ _ _ _ _
   | exact counterpaneref04_part.mono _ _
   | exact LeO.none _
   | refine LeO.ite ?_ ?_
   | refine LeO.bind ?_ (fun _ => ?_)
theorem counterpaneref04_Right.mono : ∀ a0 k,LeO (counterpaneref04_Right.f k a0) (counterpaneref04_Right.f (k + 1) a0):=by
 intro a0 k
 obtain ⟨ih0,ih1⟩:=counterpaneref04_Right.mono_l k
 unfold counterpaneref04_Right.f
 repeat' first
   | (with_reducible exact ih0 _ _ _ _)
   | (with_reducible exact ih1 _ _ _ _ _)
   | (with_reducible exact counterpaneref04_part.mono _ _)
   | (with_reducible exact LeO.refl _)
   | (with_reducible exact LeO.none _)
   | (with_reducible refine LeO.ite ?_ ?_)
   | (with_reducible refine LeO.bind ?_ (fun _ => ?_))
   | exact ih0 _ _ _ _
   | exact ih1 _ _ _ _ _
   | exact counterpaneref04_part.mono _ _
   | exact LeO.none _
   | refine LeO.ite ?_ ?_
   | refine LeO.bind ?_ (fun _ => ?_)
set_option maxHeartbeats 8000000 in
set_option maxRecDepth 100000 in
theorem counterpaneref04_Right.calls (k : Nat) (a0 : ByteArray) (r : Bool) (w : World) (h : counterpaneref04_Right.f k a0 = some r) :
  Calls Tryz.prog 36 #[.string a0] w fun e w' => e = .returned (.bool r) ∧ Drawn0 w w':=by
 have H : (counterpaneref04_Right.l0 k a0 0 0 0) = some r:=h
 clear h
 have H':=Aside0.mk H
 clear H
 go_enter Tryz.func36,Tryz.ntmps36
 go_wp2
 go_loopg [3,4,5] k (fun kq v3 v4 v5 w' => ∃ (x3_1 : Int) (x4_1 : Int) (x5_1 : Int),v3 = .int .i64 x3_1 ∧ v4 = .int .i64 x4_1 ∧ v5 = .int .i64 x5_1 ∧ Aside0 (counterpaneref04_Right.l0 kq a0 x3_1 x4_1 x5_1 = some r) ∧ Aside0 (kq ≤ k) ∧ Drawn0 w w')
 case atStart => exact ⟨(0),(0),(0),(by first | rfl | (simp; done) | (simp [*]; done)),(by first | rfl | (simp; done) | (simp [*]; done)),(by first | rfl | (simp; done) | (simp [*]; done)),H',⟨Nat.le_refl _⟩,by repeat (first | exact Drawn0.refl _ | apply Drawn0.step)⟩
 case round =>
  clear H'
  obtain ⟨x3_1,x4_1,x5_1,rfl,rfl,rfl,HA,HK1,⟨m1,rfl⟩⟩:=hrel
  cases gk with
  | zero => exact absurd HA.out (by simp [counterpaneref04_Right.l0])
  | succ k1 =>
   have H:=HA.out
   clear HA
   simp only [counterpaneref04_Right.l0] at H
   by_cases c2 : x5_1 ≤ (a0.size : Int)
   ·rw [if_pos c2] at H
    have c2b0 : decide (x5_1 ≤ (a0.size : Int)) = true:=decide_eq_true c2
    clear c2
    have HC3:=Aside0.mk H
    clear H
    go_upto_region 6 with (fail)
    go_cut [21] (fun v21 wc => ∃ (kq : Nat) (x21_2 : Bool),v21 = .bool x21_2 ∧ Aside0 (counterpaneref04_Right.j1 kq a0 x3_1 x4_1 x5_1 x21_2 = some r) ∧ Aside0 (kq ≤ k1) ∧ Drawn0 w wc)
    case first =>
     have H:=HC3.out
     clear HC3
     by_cases c4 : x5_1 < (a0.size : Int)
     ·rw [if_pos c4] at H
      have c4b0 : decide (x5_1 < (a0.size : Int)) = true:=decide_eq_true c4
      clear c4
      (first | rw [c4b0] | (simp only [i64_w,i32_w]; rw [c4b0]) | skip)
      by_cases c5 : 0 ≤ x5_1
      ·rw [if_pos c5] at H
       have c5b0 : decide (0 ≤ x5_1) = true:=decide_eq_true c5
       clear c5
       have H':=Aside0.mk H
       clear H
       have p6 : 0 ≤ (x5_1 : Int):=of_decide_eq_true (by first | (with_reducible assumption) | assumption)
       have q6 : x5_1 < (a0.size : Int):=of_decide_eq_true (by first | (with_reducible assumption) | assumption)
       have hx6:=bt_at a0 x5_1
       replace p6:=eq_true p6
       replace q6:=eq_true q6
       go_wp2
       go_meet
       case rel => exact ⟨_,(((bt a0 x5_1) != 47)),(by first | rfl | (simp; done) | (simp [*]; done)),H',⟨by have:=HK1.out; first | omega | exact Nat.le_refl _⟩,by repeat (first | exact Drawn0.refl _ | apply Drawn0.step)⟩
      ·rw [if_neg c5] at H
       exact absurd H (by simp)
     ·rw [if_neg c4] at H
      have c4b0 : decide (x5_1 < (a0.size : Int)) = false:=decide_eq_false c4
      clear c4
      (first | rw [c4b0] | (simp only [i64_w,i32_w]; rw [c4b0]) | skip)
      have H':=Aside0.mk H
      clear H
      go_wp2
      go_meet
      case rel => exact ⟨_,(false),(by first | rfl | (simp; done) | (simp [*]; done)),H',⟨by have:=HK1.out; first | omega | exact Nat.le_refl _⟩,by repeat (first | exact Drawn0.refl _ | apply Drawn0.step)⟩
    case rest =>
     clear HC3
     try clear c2
     try clear c2b0
     try clear p2
     try clear c3
     try clear c4
     try clear c4b0
     try clear c5
     try clear c5b0
     try clear p6
     try clear q6
     try clear hx6
     try clear p6
     try clear q6
     obtain ⟨kq,x21_2,rfl,HA,HJ2,⟨mc2,rfl⟩⟩:=hcut
     cases kq with
     | zero => exact absurd HA.out (by simp [counterpaneref04_Right.j1])
     | succ kj2 =>
      have H:=HA.out
      clear HA
      simp only [counterpaneref04_Right.j1] at H
      by_cases c7 : x21_2 = true
      ·subst c7
       have H1 : (counterpaneref04_Right.l0 kj2 a0 x3_1 x4_1 (wrap64 (x5_1 + 1))) = some r:=by rw [if_pos rfl] at H; exact H
       clear H
       have H:=H1
       clear H1
       have H':=Aside0.mk H
       clear H
       go_wp2
       go_roundg kj2
       case measure => have:=HK1.out; have:=HJ2.out; omega
       case rel => exact ⟨(x3_1),(x4_1),(wrap64 (x5_1 + 1)),(by first | rfl | (simp; done) | (simp [*]; done)),(by first | rfl | (simp; done) | (simp [*]; done)),(by first | rfl | (simp; done) | (simp [*]; done)),H',⟨by have:=HK1.out; have:=HJ2.out; omega⟩,by repeat (first | exact Drawn0.refl _ | apply Drawn0.step)⟩
      ·replace c7:=Bool.eq_false_iff.mpr c7
       subst c7
       have H1 : (if 0 ≤ x4_1 then (if x4_1 ≤ x5_1 then (if x5_1 ≤ (a0.size : Int) then ((counterpaneref04_part.f kj2 (a0.extract (x4_1 : Int).toNat (x5_1 : Int).toNat)).bind fun t193 => (if t193 = true then (counterpaneref04_Right.l0 kj2 a0 (wrap64 (x3_1 + 1)) (wrap64 (x5_1 + 1)) (wrap64 (x5_1 + 1))) else (some false))) else (none)) else (none)) else (none)) = some r:=by rw [if_neg (show ¬ (false = true) by decide)] at H; exact H
       clear H
       have H:=H1
       clear H1
       by_cases c8 : 0 ≤ x4_1
       ·rw [if_pos c8] at H
        have c8b0:=eq_true c8
        have c8b1 : decide (0 ≤ x4_1) = true:=decide_eq_true c8
        clear c8
        by_cases c9 : x4_1 ≤ x5_1
        ·rw [if_pos c9] at H
         have c9b0:=eq_true c9
         have c9b1 : decide (x4_1 ≤ x5_1) = true:=decide_eq_true c9
         clear c9
         by_cases c10 : x5_1 ≤ (a0.size : Int)
         ·rw [if_pos c10] at H
          have c10b0:=eq_true c10
          have c10b1 : decide (x5_1 ≤ (a0.size : Int)) = true:=decide_eq_true c10
          clear c10
          replace H:=Option.bind_eq_some_iff.mp H
          obtain ⟨t193,A110,H⟩:=H
          replace H : (if t193 = true then (counterpaneref04_Right.l0 kj2 a0 (wrap64 (x3_1 + 1)) (wrap64 (x5_1 + 1)) (wrap64 (x5_1 + 1))) else (some false)) = some r:=H
          have A11:=Aside0.mk A110
          clear A110
          by_cases c12 : t193 = true
          ·subst c12
           have H1 : (counterpaneref04_Right.l0 kj2 a0 (wrap64 (x3_1 + 1)) (wrap64 (x5_1 + 1)) (wrap64 (x5_1 + 1))) = some r:=by rw [if_pos rfl] at H; exact H
           clear H
           have H:=H1
           clear H1
           have H':=Aside0.mk H
           clear H
           go_wp2_with (first | ((with_reducible refine gate_callee (f:=75) rfl ?_); refine goesL_ (some 26) rfl rfl Tryz.func75 (by kernel_rfl) rfl #[.string (a0.extract (x4_1 : Int).toNat (x5_1 : Int).toNat)] rfl (by (try simp only [List.map_toArray,List.map_cons,List.map_nil]); first | done | rfl | (simp only [List.length_drop,List.length_take]; rfl)) ?_; (with_reducible refine (counterpaneref04_part.calls kj2 (a0.extract (x4_1 : Int).toNat (x5_1 : Int).toNat) true _ A11.out).mono ?_); rintro e w' ⟨rfl,⟨nd,rfl⟩⟩; refine ⟨_,rfl,?_⟩))
           go_roundg kj2
           case measure => have:=HK1.out; have:=HJ2.out; omega
           case rel => exact ⟨(wrap64 (x3_1 + 1)),(wrap64 (x5_1 + 1)),(wrap64 (x5_1 + 1)),(by first | rfl | (simp; done) | (simp [*]; done)),(by first | rfl | (simp; done) | (simp [*]; done)),(by first | rfl | (simp; done) | (simp [*]; done)),H',⟨by have:=HK1.out; have:=HJ2.out; omega⟩,by repeat (first | exact Drawn0.refl _ | apply Drawn0.step)⟩
          ·replace c12:=Bool.eq_false_iff.mpr c12
           subst c12
           have H1 : (some false) = some r:=by rw [if_neg (show ¬ (false = true) by decide)] at H; exact H
           clear H
           have H:=H1
           clear H1
           obtain rfl:=Option.some.inj H
           go_wp2_with (first | ((with_reducible refine gate_callee (f:=75) rfl ?_); refine goesL_ (some 26) rfl rfl Tryz.func75 (by kernel_rfl) rfl #[.string (a0.extract (x4_1 : Int).toNat (x5_1 : Int).toNat)] rfl (by (try simp only [List.map_toArray,List.map_cons,List.map_nil]); first | done | rfl | (simp only [List.length_drop,List.length_take]; rfl)) ?_; (with_reducible refine (counterpaneref04_part.calls kj2 (a0.extract (x4_1 : Int).toNat (x5_1 : Int).toNat) false _ A11.out).mono ?_); rintro e w' ⟨rfl,⟨nd,rfl⟩⟩; refine ⟨_,rfl,?_⟩))
           go_ret
           exact ⟨by first | rfl | (simp; done) | (simp [*]; done) | (simp [show ∀ l : List UInt8,(l != []) = !l.isEmpty from fun l => by cases l <;> rfl]; done),by repeat (first | exact Drawn0.refl _ | apply Drawn0.step)⟩
         ·rw [if_neg c10] at H
          exact absurd H (by simp)
        ·rw [if_neg c9] at H
         exact absurd H (by simp)
       ·rw [if_neg c8] at H
        exact absurd H (by simp)
   ·rw [if_neg c2] at H
    have c2b0 : decide (x5_1 ≤ (a0.size : Int)) = false:=decide_eq_false c2
    clear c2
    obtain rfl:=Option.some.inj H
    go_wp2
    go_ret
    exact ⟨by first | rfl | (simp; done) | (simp [*]; done) | (simp [show ∀ l : List UInt8,(l != []) = !l.isEmpty from fun l => by cases l <;> rfl]; done),by repeat (first | exact Drawn0.refl _ | apply Drawn0.step)⟩

mutual
def counterpaneref05_Right.l0 : Nat → List ByteArray → Int → Option (Bool)
 | 0,_,_ => none
 | k + 1,x0,x3 => if x3 < (x0.length : Int) then (counterpaneref05_Right.l1 k x0 x3 0) else (some true)
def counterpaneref05_Right.l1 : Nat → List ByteArray → Int → Int → Option (Bool)
 | 0,_,_,_ => none
 | k + 1,x0,x3,x4 => if 0 ≤ x3 then (if x3 < (x0.length : Int) then (if x4 < ((rdOf ByteArray.empty x0 x3).size : Int) then (if 0 ≤ x4 then (if (bt (rdOf ByteArray.empty x0 x3) x4) = 10 then (some false) else (counterpaneref05_Right.l1 k x0 x3 (wrap64 (x4 + 1)))) else (none)) else (counterpaneref05_Right.l0 k x0 (wrap64 (x3 + 1)))) else (none)) else (none)
end
def counterpaneref05_Right.f (k : Nat) (l0 : List ByteArray) : Option (Bool):=counterpaneref05_Right.l0 k l0 0
theorem counterpaneref05_Right.mono_l : ∀ k,(∀ y0 y1,LeO (counterpaneref05_Right.l0 k y0 y1) (counterpaneref05_Right.l0 (k + 1) y0 y1)) ∧ (∀ y0 y1 y2,LeO (counterpaneref05_Right.l1 k y0 y1 y2) (counterpaneref05_Right.l1 (k + 1) y0 y1 y2))
 | 0 => ⟨fun _ _ r h => by simp [counterpaneref05_Right.l0] at h,fun _ _ _ r h => by simp [counterpaneref05_Right.l1] at h⟩
 | k + 1 => by
  obtain ⟨ih0,ih1⟩:=counterpaneref05_Right.mono_l k
  refine ⟨?_,?_⟩
  ·intro y0 y1
   unfold counterpaneref05_Right.l0
   repeat' first
   | (with_reducible exact ih0 _ _)
   | (with_reducible exact ih1 _ _ _)
   | (with_reducible exact LeO.refl _)
   | (with_reducible exact LeO.none _)
   | (with_reducible refine LeO.ite ?_ ?_)
   | (with_reducible refine LeO.bind ?_ (fun _ => ?_))
   | exact ih0 _ _
   | exact ih1 _ _ _
   | exact LeO.none _
   | refine LeO.ite ?_ ?_
   | refine LeO.bind ?_ (fun _ => ?_)
  ·intro y0 y1 y2
   unfold counterpaneref05_Right.l1
   repeat' first
   | (with_reducible exact ih0 _ _)
   | (with_reducible exact ih1 _ _ _)
   | (with_reducible exact LeO.refl _)
   | (with_reducible exact LeO.none _)
   | (with_reducible refine LeO.ite ?_ ?_)
   | (with_reducible refine LeO.bind ?_ (fun _ => ?_))
   | exact ih0 _ _
   | exact ih1 _ _ _
   | exact LeO.none _
   | refine LeO.ite ?_ ?_
   | refine LeO.bind ?_ (fun _ => ?_)
theorem counterpaneref05_Right.mono : ∀ a0 k,LeO (counterpaneref05_Right.f k a0) (counterpaneref05_Right.f (k + 1) a0):=by
 intro a0 k
 obtain ⟨ih0,ih1⟩:=counterpaneref05_Right.mono_l k
 unfold counterpaneref05_Right.f
 repeat' first
   | (with_reducible exact ih0 _ _)
   | (with_reducible exact ih1 _ _ _)
   | (with_reducible exact LeO.refl _)
   | (with_reducible exact LeO.none _)
   | (with_reducible refine LeO.ite ?_ ?_)
   | (with_reducible refine LeO.bind ?_ (fun _ => ?_))
   | exact ih0 _ _
   | exact ih1 _ _ _
   | exact LeO.none _
   | refine LeO.ite ?_ ?_
   | refine LeO.bind ?_ (fun _ => ?_)
set_option maxHeartbeats 8000000 in
set_option maxRecDepth 100000 in
theorem counterpaneref05_Right.calls (k : Nat) (A0 : Option Addr) (c0 : Nat) (l0 : List ByteArray) (r : Bool) (w : World) (hr0 : Kd.C Kd.string w A0 l0.length l0) (hc0 : l0.length ≤ c0) (h : counterpaneref05_Right.f k l0 = some r) :
  Calls Tryz.prog 70 #[.slice A0 l0.length c0] w fun e w' => e = .returned (.bool r) ∧ Drawn0 w w':=by
 have HR0:=Aside0.mk hr0
 have HC0:=Aside0.mk hc0
 clear hr0 hc0
 have H : (counterpaneref05_Right.l0 k l0 0) = some r:=h
 clear h
 have H':=Aside0.mk H
 clear H
 go_enter Tryz.func70,Tryz.ntmps70
 go_wp2
 go_loopg [3] k (fun kq v3 w' => ∃ (x3_1 : Int),v3 = .int .i64 x3_1 ∧ Aside0 (counterpaneref05_Right.l0 kq l0 x3_1 = some r) ∧ Aside0 (kq ≤ k) ∧ Drawn0 w w')
 case atStart => exact ⟨(0),(by first | rfl | (simp; done) | (simp [*]; done)),H',⟨Nat.le_refl _⟩,by repeat (first | exact Drawn0.refl _ | apply Drawn0.step)⟩
 case round =>
  clear H'
  obtain ⟨x3_1,rfl,HA,HK1,⟨m1,rfl⟩⟩:=hrel
  cases gk with
  | zero => exact absurd HA.out (by simp [counterpaneref05_Right.l0])
  | succ k1 =>
   have H:=HA.out
   clear HA
   simp only [counterpaneref05_Right.l0] at H
   by_cases c2 : x3_1 < (l0.length : Int)
   ·rw [if_pos c2] at H
    have c2b0 : decide (x3_1 < (l0.length : Int)) = true:=decide_eq_true c2
    clear c2
    have H':=Aside0.mk H
    clear H
    go_wp2
    go_loopg [4] k1 (fun kq v4 w' => ∃ (x4_2 : Int),v4 = .int .i64 x4_2 ∧ Aside0 (counterpaneref05_Right.l1 kq l0 x3_1 x4_2 = some r) ∧ Aside0 (kq ≤ k1) ∧ Drawn0 w w')
    case atStart => exact ⟨(0),(by first | rfl | (simp; done) | (simp [*]; done)),H',⟨Nat.le_refl _⟩,by repeat (first | exact Drawn0.refl _ | apply Drawn0.step)⟩
    case round =>
     clear H'
     try clear c2
     try clear c2b0
     try clear p2
     obtain ⟨x4_2,rfl,HA,HK2,⟨m2,rfl⟩⟩:=hrel
     cases gk with
     | zero => exact absurd HA.out (by simp [counterpaneref05_Right.l1])
     | succ k2 =>
      have H:=HA.out
      clear HA
      simp only [counterpaneref05_Right.l1] at H
      by_cases c3 : 0 ≤ x3_1
      ·rw [if_pos c3] at H
       have c3b0 : decide (0 ≤ x3_1) = true:=decide_eq_true c3
       clear c3
       by_cases c4 : x3_1 < (l0.length : Int)
       ·rw [if_pos c4] at H
        have c4b0 : decide (x3_1 < (l0.length : Int)) = true:=decide_eq_true c4
        clear c4
        by_cases c5 : x4_2 < ((rdOf ByteArray.empty l0 x3_1).size : Int)
        ·rw [if_pos c5] at H
         have c5b0 : decide (x4_2 < ((rdOf ByteArray.empty l0 x3_1).size : Int)) = true:=decide_eq_true c5
         clear c5
         by_cases c6 : 0 ≤ x4_2
         ·rw [if_pos c6] at H
          have c6b0 : decide (0 ≤ x4_2) = true:=decide_eq_true c6
          clear c6
          by_cases c8 : (bt (rdOf ByteArray.empty l0 x3_1) x4_2) = 10
          ·rw [if_pos c8] at H
           have c8b0 : ((bt (rdOf ByteArray.empty l0 x3_1) x4_2) == 10) = true:=beq_iff_eq.mpr c8
           have c8b1 : ((bt (rdOf ByteArray.empty l0 x3_1) x4_2) != 10) = false:=bne_eq_false_iff_eq.mpr c8
           clear c8
           obtain rfl:=Option.some.inj H
           have p194 : 0 ≤ (x3_1 : Int):=of_decide_eq_true (by first | (with_reducible assumption) | assumption)
           have q194 : x3_1 < (l0.length : Int):=of_decide_eq_true (by first | (with_reducible assumption) | assumption)
           obtain ⟨ad194,e194,hx194_0⟩:=Kd.at_string HR0.out x3_1 p194 q194
           cases e194
           replace p194:=eq_true p194
           replace q194:=eq_true q194
           have p195 : 0 ≤ (x3_1 : Int):=of_decide_eq_true (by first | (with_reducible assumption) | assumption)
           have q195 : x3_1 < (l0.length : Int):=of_decide_eq_true (by first | (with_reducible assumption) | assumption)
           obtain ⟨ad195,e195,hx195_0⟩:=Kd.at_string HR0.out x3_1 p195 q195
           obtain rfl : ad194 = ad195:=(by injection e195)
           replace p195:=eq_true p195
           replace q195:=eq_true q195
           have p7 : 0 ≤ (x4_2 : Int):=of_decide_eq_true (by first | (with_reducible assumption) | assumption)
           have q7 : x4_2 < ((rdOf ByteArray.empty l0 x3_1).size : Int):=of_decide_eq_true (by first | (with_reducible assumption) | assumption)
           have hx7:=bt_at (rdOf ByteArray.empty l0 x3_1) x4_2
           replace p7:=eq_true p7
           replace q7:=eq_true q7
           go_wp2
           go_ret
           exact ⟨by first | rfl | (simp; done) | (simp [*]; done) | (simp [show ∀ l : List UInt8,(l != []) = !l.isEmpty from fun l => by cases l <;> rfl]; done),by repeat (first | exact Drawn0.refl _ | apply Drawn0.step)⟩
          ·rw [if_neg c8] at H
           have c8b0 : ((bt (rdOf ByteArray.empty l0 x3_1) x4_2) == 10) = false:=beq_eq_false_iff_ne.mpr c8
           have c8b1 : ((bt (rdOf ByteArray.empty l0 x3_1) x4_2) != 10) = true:=bne_iff_ne.mpr c8
           have H':=Aside0.mk H
           clear H
           have p194 : 0 ≤ (x3_1 : Int):=of_decide_eq_true (by first | (with_reducible assumption) | assumption)
           have q194 : x3_1 < (l0.length : Int):=of_decide_eq_true (by first | (with_reducible assumption) | assumption)
           obtain ⟨ad194,e194,hx194_0⟩:=Kd.at_string HR0.out x3_1 p194 q194
           cases e194
           replace p194:=eq_true p194
           replace q194:=eq_true q194
           have p195 : 0 ≤ (x3_1 : Int):=of_decide_eq_true (by first | (with_reducible assumption) | assumption)
           have q195 : x3_1 < (l0.length : Int):=of_decide_eq_true (by first | (with_reducible assumption) | assumption)
           obtain ⟨ad195,e195,hx195_0⟩:=Kd.at_string HR0.out x3_1 p195 q195
           obtain rfl : ad194 = ad195:=(by injection e195)
           replace p195:=eq_true p195
           replace q195:=eq_true q195
           have p7 : 0 ≤ (x4_2 : Int):=of_decide_eq_true (by first | (with_reducible assumption) | assumption)
           have q7 : x4_2 < ((rdOf ByteArray.empty l0 x3_1).size : Int):=of_decide_eq_true (by first | (with_reducible assumption) | assumption)
           have hx7:=bt_at (rdOf ByteArray.empty l0 x3_1) x4_2
           replace p7:=eq_true p7
           replace q7:=eq_true q7
           go_wp2
           go_roundg k2
           case measure => have:=HK1.out; have:=HK2.out; omega
           case rel => exact ⟨(wrap64 (x4_2 + 1)),(by first | rfl | (simp; done) | (simp [*]; done)),H',⟨by have:=HK1.out; have:=HK2.out; omega⟩,by repeat (first | exact Drawn0.refl _ | apply Drawn0.step)⟩
         ·rw [if_neg c6] at H
          exact absurd H (by simp)
        ·rw [if_neg c5] at H
         have c5b0 : decide (x4_2 < ((rdOf ByteArray.empty l0 x3_1).size : Int)) = false:=decide_eq_false c5
         clear c5
         have H':=Aside0.mk H
         clear H
         have p194 : 0 ≤ (x3_1 : Int):=of_decide_eq_true (by first | (with_reducible assumption) | assumption)
         have q194 : x3_1 < (l0.length : Int):=of_decide_eq_true (by first | (with_reducible assumption) | assumption)
         obtain ⟨ad194,e194,hx194_0⟩:=Kd.at_string HR0.out x3_1 p194 q194
         cases e194
         replace p194:=eq_true p194
         replace q194:=eq_true q194
         go_wp2
         go_roundg k2
         case measure => have:=HK1.out; have:=HK2.out; omega
         case rel => exact ⟨(wrap64 (x3_1 + 1)),(by first | rfl | (simp; done) | (simp [*]; done)),H',⟨by have:=HK1.out; have:=HK2.out; omega⟩,by repeat (first | exact Drawn0.refl _ | apply Drawn0.step)⟩
       ·rw [if_neg c4] at H
        exact absurd H (by simp)
      ·rw [if_neg c3] at H
       exact absurd H (by simp)
   ·rw [if_neg c2] at H
    have c2b0 : decide (x3_1 < (l0.length : Int)) = false:=decide_eq_false c2
    clear c2
    obtain rfl:=Option.some.inj H
    go_wp2
    go_ret
    exact ⟨by first | rfl | (simp; done) | (simp [*]; done) | (simp [show ∀ l : List UInt8,(l != []) = !l.isEmpty from fun l => by cases l <;> rfl]; done),by repeat (first | exact Drawn0.refl _ | apply Drawn0.step)⟩

end Go.Proofs.YthhohbidjhcjeaaGreatDoor.Q
namespace Go.Proofs.YthhohbidjhcjeaaGreatDoor.Q
open Go.RowKit Go.Proofs.YthhohbidjhcjeaaGreatDoorW.PrintWords Go.Proofs.YthhohbidjhcjeaaGreatDoorW.PrintLast Go.Proofs.YthhohbidjhcjeaaGreatDoorW.PrintMore
attribute [local go_sem] max2_int min2_int max_two min_two max_three min_three max_four min_four   -- for this text's walks alone
set_option linter.unusedVariables false
set_option linter.unusedSimpArgs false

def counterpaneref05_in.f (a0 : Int) : Option (Bool):=if a0 = 95 then (some true) else (if a0 ≥ 97 then (if a0 ≤ 122 then (some true) else (if a0 ≥ 65 then (if a0 ≤ 90 then (some true) else (if a0 ≥ 48 then (some (decide (a0 ≤ 57))) else (some false))) else (if a0 ≥ 48 then (some (decide (a0 ≤ 57))) else (some false)))) else (if a0 ≥ 65 then (if a0 ≤ 90 then (some true) else (if a0 ≥ 48 then (some (decide (a0 ≤ 57))) else (some false))) else (if a0 ≥ 48 then (some (decide (a0 ≤ 57))) else (some false))))
set_option maxHeartbeats 8000000 in
set_option maxRecDepth 100000 in
theorem counterpaneref05_in.calls (a0 : Int) (r : Bool) (w : World) (h : counterpaneref05_in.f a0 = some r) :
  Calls Tryz.prog 117 #[.int .u8 a0] w fun e w' => e = .returned (.bool r) ∧ Drawn0 w w':=by
 have H : (if a0 = 95 then (some true) else (if a0 ≥ 97 then (if a0 ≤ 122 then (some true) else (if a0 ≥ 65 then (if a0 ≤ 90 then (some true) else (if a0 ≥ 48 then (some (decide (a0 ≤ 57))) else (some false))) else (if a0 ≥ 48 then (some (decide (a0 ≤ 57))) else (some false)))) else (if a0 ≥ 65 then (if a0 ≤ 90 then (some true) else (if a0 ≥ 48 then (some (decide (a0 ≤ 57))) else (some false))) else (if a0 ≥ 48 then (some (decide (a0 ≤ 57))) else (some false))))) = some r:=h
 clear h
 by_cases c2 : a0 = 95
 ·rw [if_pos c2] at H
  have c2b0 : (a0 == 95) = true:=beq_iff_eq.mpr c2
  have c2b1 : (a0 != 95) = false:=bne_eq_false_iff_eq.mpr c2
  clear c2
  obtain rfl:=Option.some.inj H
  go_enter Tryz.func117,Tryz.ntmps117
  go_wp2
  go_ret
  exact ⟨by first | rfl | (simp; done) | (simp [*]; done) | (simp [show ∀ l : List UInt8,(l != []) = !l.isEmpty from fun l => by cases l <;> rfl]; done),by repeat (first | exact Drawn0.refl _ | apply Drawn0.step)⟩
 ·rw [if_neg c2] at H
  have c2b0 : (a0 == 95) = false:=beq_eq_false_iff_ne.mpr c2
  have c2b1 : (a0 != 95) = true:=bne_iff_ne.mpr c2
  by_cases c3 : a0 ≥ 97
  ·rw [if_pos c3] at H
   have c3b0 : decide (97 ≤ a0) = true:=decide_eq_true c3
   clear c3
   by_cases c4 : a0 ≤ 122
   ·rw [if_pos c4] at H
    have c4b0 : decide (a0 ≤ 122) = true:=decide_eq_true c4
    clear c4
    obtain rfl:=Option.some.inj H
    go_enter Tryz.func117,Tryz.ntmps117
    go_wp2
    go_ret
    exact ⟨by first | rfl | (simp; done) | (simp [*]; done) | (simp [show ∀ l : List UInt8,(l != []) = !l.isEmpty from fun l => by cases l <;> rfl]; done),by repeat (first | exact Drawn0.refl _ | apply Drawn0.step)⟩
   ·rw [if_neg c4] at H
    have c4b0 : decide (a0 ≤ 122) = false:=decide_eq_false c4
    clear c4
    by_cases c5 : a0 ≥ 65
    ·rw [if_pos c5] at H
     have c5b0 : decide (65 ≤ a0) = true:=decide_eq_true c5
     clear c5
     by_cases c6 : a0 ≤ 90
     ·rw [if_pos c6] at H
      have c6b0 : decide (a0 ≤ 90) = true:=decide_eq_true c6
      clear c6
      obtain rfl:=Option.some.inj H
      go_enter Tryz.func117,Tryz.ntmps117
      go_wp2
      go_ret
      exact ⟨by first | rfl | (simp; done) | (simp [*]; done) | (simp [show ∀ l : List UInt8,(l != []) = !l.isEmpty from fun l => by cases l <;> rfl]; done),by repeat (first | exact Drawn0.refl _ | apply Drawn0.step)⟩
     ·rw [if_neg c6] at H
      have c6b0 : decide (a0 ≤ 90) = false:=decide_eq_false c6
      clear c6
      by_cases c7 : a0 ≥ 48
      ·rw [if_pos c7] at H
       have c7b0 : decide (48 ≤ a0) = true:=decide_eq_true c7
       clear c7
       obtain rfl:=Option.some.inj H
       go_enter Tryz.func117,Tryz.ntmps117
       go_wp2
       go_ret
       exact ⟨by first | rfl | (simp; done) | (simp [*]; done) | (simp [show ∀ l : List UInt8,(l != []) = !l.isEmpty from fun l => by cases l <;> rfl]; done),by repeat (first | exact Drawn0.refl _ | apply Drawn0.step)⟩
      ·rw [if_neg c7] at H
       have c7b0 : decide (48 ≤ a0) = false:=decide_eq_false c7
       clear c7
       obtain rfl:=Option.some.inj H
       go_enter Tryz.func117,Tryz.ntmps117
       go_wp2
       go_ret
       exact ⟨by first | rfl | (simp; done) | (simp [*]; done) | (simp [show ∀ l : List UInt8,(l != []) = !l.isEmpty from fun l => by cases l <;> rfl]; done),by repeat (first | exact Drawn0.refl _ | apply Drawn0.step)⟩
    ·rw [if_neg c5] at H
     have c5b0 : decide (65 ≤ a0) = false:=decide_eq_false c5
     clear c5
     by_cases c8 : a0 ≥ 48
     ·rw [if_pos c8] at H
      have c8b0 : decide (48 ≤ a0) = true:=decide_eq_true c8
      clear c8
      obtain rfl:=Option.some.inj H
      go_enter Tryz.func117,Tryz.ntmps117
      go_wp2
      go_ret
      exact ⟨by first | rfl | (simp; done) | (simp [*]; done) | (simp [show ∀ l : List UInt8,(l != []) = !l.isEmpty from fun l => by cases l <;> rfl]; done),by repeat (first | exact Drawn0.refl _ | apply Drawn0.step)⟩
     ·rw [if_neg c8] at H
      have c8b0 : decide (48 ≤ a0) = false:=decide_eq_false c8
      clear c8
      obtain rfl:=Option.some.inj H
      go_enter Tryz.func117,Tryz.ntmps117
      go_wp2
      go_ret
      exact ⟨by first | rfl | (simp; done) | (simp [*]; done) | (simp [show ∀ l : List UInt8,(l != []) = !l.isEmpty from fun l => by cases l <;> rfl]; done),by repeat (first | exact Drawn0.refl _ | apply Drawn0.step)⟩
  ·rw [if_neg c3] at H
   have c3b0 : decide (97 ≤ a0) = false:=decide_eq_false c3
   clear c3
   by_cases c9 : a0 ≥ 65
   ·rw [if_pos c9] at H
    have c9b0 : decide (65 ≤ a0) = true:=decide_eq_true c9
    clear c9
    by_cases c10 : a0 ≤ 90
    ·rw [if_pos c10] at H
     have c10b0 : decide (a0 ≤ 90) = true:=decide_eq_true c10
     clear c10
     obtain rfl:=Option.some.inj H
     go_enter Tryz.func117,Tryz.ntmps117
     go_wp2
     go_ret
     exact ⟨by first | rfl | (simp; done) | (simp [*]; done) | (simp [show ∀ l : List UInt8,(l != []) = !l.isEmpty from fun l => by cases l <;> rfl]; done),by repeat (first | exact Drawn0.refl _ | apply Drawn0.step)⟩
    ·rw [if_neg c10] at H
     have c10b0 : decide (a0 ≤ 90) = false:=decide_eq_false c10
     clear c10
     by_cases c11 : a0 ≥ 48
     ·rw [if_pos c11] at H
      have c11b0 : decide (48 ≤ a0) = true:=decide_eq_true c11
      clear c11
      obtain rfl:=Option.some.inj H
      go_enter Tryz.func117,Tryz.ntmps117
      go_wp2
      go_ret
      exact ⟨by first | rfl | (simp; done) | (simp [*]; done) | (simp [show ∀ l : List UInt8,(l != []) = !l.isEmpty from fun l => by cases l <;> rfl]; done),by repeat (first | exact Drawn0.refl _ | apply Drawn0.step)⟩
     ·rw [if_neg c11] at H
      have c11b0 : decide (48 ≤ a0) = false:=decide_eq_false c11
      clear c11
      obtain rfl:=Option.some.inj H
      go_enter Tryz.func117,Tryz.ntmps117
      go_wp2
      go_ret
      exact ⟨by first | rfl | (simp; done) | (simp [*]; done) | (simp [show ∀ l : List UInt8,(l != []) = !l.isEmpty from fun l => by cases l <;> rfl]; done),by repeat (first | exact Drawn0.refl _ | apply Drawn0.step)⟩
   ·rw [if_neg c9] at H
    have c9b0 : decide (65 ≤ a0) = false:=decide_eq_false c9
    clear c9
    by_cases c12 : a0 ≥ 48
    ·rw [if_pos c12] at H
     have c12b0 : decide (48 ≤ a0) = true:=decide_eq_true c12
     clear c12
     obtain rfl:=Option.some.inj H
     go_enter Tryz.func117,Tryz.ntmps117
     go_wp2
     go_ret
     exact ⟨by first | rfl | (simp; done) | (simp [*]; done) | (simp [show ∀ l : List UInt8,(l != []) = !l.isEmpty from fun l => by cases l <;> rfl]; done),by repeat (first | exact Drawn0.refl _ | apply Drawn0.step)⟩
    ·rw [if_neg c12] at H
     have c12b0 : decide (48 ≤ a0) = false:=decide_eq_false c12
     clear c12
     obtain rfl:=Option.some.inj H
     go_enter Tryz.func117,Tryz.ntmps117
     go_wp2
     go_ret
     exact ⟨by first | rfl | (simp; done) | (simp [*]; done) | (simp [show ∀ l : List UInt8,(l != []) = !l.isEmpty from fun l => by cases l <;> rfl]; done),by repeat (first | exact Drawn0.refl _ | apply Drawn0.step)⟩

def counterpaneref05_Token.l0 : Nat → ByteArray → Int → Option (Bool)
 | 0,_,_ => none
 | k + 1,x0,x3 => if x3 < (x0.size : Int) then (if 0 ≤ x3 then ((counterpaneref05_in.f (bt x0 x3)).bind fun t196 => (if t196 = true then (counterpaneref05_Token.l0 k x0 (wrap64 (x3 + 1))) else (some false))) else (none)) else (some (decide ((x0.size : Int) > 0)))
def counterpaneref05_Token.f (k : Nat) (a0 : ByteArray) : Option (Bool):=counterpaneref05_Token.l0 k a0 0
theorem counterpaneref05_Token.mono_l : ∀ k,(∀ y0 y1,LeO (counterpaneref05_Token.l0 k y0 y1) (counterpaneref05_Token.l0 (k + 1) y0 y1))
 | 0 => fun _ _ r h => by simp [counterpaneref05_Token.l0] at h
 | k + 1 => by
  have ih0:=counterpaneref05_Token.mono_l k
  ·intro y0 y1
   unfold counterpaneref05_Token.l0
   repeat' first
   | (with_reducible exact ih0 _ _)
   | (with_reducible exact LeO.refl _)
   | (with_reducible exact LeO.none _)
   | (with_reducible refine LeO.ite ?_ ?_)
   | (with_reducible refine LeO.bind ?_ (fun _ => ?_))
   | exact ih0 _ _
   | exact LeO.none _
   | refine LeO.ite ?_ ?_
   | refine LeO.bind ?_ (fun _ => ?_)
theorem counterpaneref05_Token.mono : ∀ a0 k,LeO (counterpaneref05_Token.f k a0) (counterpaneref05_Token.f (k + 1) a0):=by
 intro a0 k
 have ih0:=counterpaneref05_Token.mono_l k
 unfold counterpaneref05_Token.f
 repeat' first
   | (with_reducible exact ih0 _ _)
   | (with_reducible exact LeO.refl _)
   | (with_reducible exact LeO.none _)
   | (with_reducible refine LeO.ite ?_ ?_)
   | (with_reducible refine LeO.bind ?_ (fun _ => ?_))
   | exact ih0 _ _
   | exact LeO.none _
   | refine LeO.ite ?_ ?_
   | refine LeO.bind ?_ (fun _ => ?_)
set_option maxHeartbeats 8000000 in
set_option maxRecDepth 100000 in
theorem counterpaneref05_Token.calls (k : Nat) (a0 : ByteArray) (r : Bool) (w : World) (h : counterpaneref05_Token.f k a0 = some r) :
  Calls Tryz.prog 71 #[.string a0] w fun e w' => e = .returned (.bool r) ∧ Drawn0 w w':=by
 have H : (counterpaneref05_Token.l0 k a0 0) = some r:=h
 clear h
 have H':=Aside0.mk H
 clear H
 go_enter Tryz.func71,Tryz.ntmps71
 go_wp2
 go_loopg [3] k (fun kq v3 w' => ∃ (x3_1 : Int),v3 = .int .i64 x3_1 ∧ Aside0 (counterpaneref05_Token.l0 kq a0 x3_1 = some r) ∧ Aside0 (kq ≤ k) ∧ Drawn0 w w')
 case atStart => exact ⟨(0),(by first | rfl | (simp; done) | (simp [*]; done)),H',⟨Nat.le_refl _⟩,by repeat (first | exact Drawn0.refl _ | apply Drawn0.step)⟩
 case round =>
  clear H'
  obtain ⟨x3_1,rfl,HA,HK1,⟨m1,rfl⟩⟩:=hrel
  cases gk with
  | zero => exact absurd HA.out (by simp [counterpaneref05_Token.l0])
  | succ k1 =>
   have H:=HA.out
   clear HA
   simp only [counterpaneref05_Token.l0] at H
   by_cases c2 : x3_1 < (a0.size : Int)
   ·rw [if_pos c2] at H
    have c2b0 : decide (x3_1 < (a0.size : Int)) = true:=decide_eq_true c2
    clear c2
    by_cases c3 : 0 ≤ x3_1
    ·rw [if_pos c3] at H
     have c3b0 : decide (0 ≤ x3_1) = true:=decide_eq_true c3
     clear c3
     replace H:=Option.bind_eq_some_iff.mp H
     obtain ⟨t196,A50,H⟩:=H
     replace H : (if t196 = true then (counterpaneref05_Token.l0 k1 a0 (wrap64 (x3_1 + 1))) else (some false)) = some r:=H
     have A5:=Aside0.mk A50
     clear A50
     by_cases c6 : t196 = true
     ·subst c6
      have H1 : (counterpaneref05_Token.l0 k1 a0 (wrap64 (x3_1 + 1))) = some r:=by rw [if_pos rfl] at H; exact H
      clear H
      have H:=H1
      clear H1
      have H':=Aside0.mk H
      clear H
      have p4 : 0 ≤ (x3_1 : Int):=of_decide_eq_true (by first | (with_reducible assumption) | assumption)
      have q4 : x3_1 < (a0.size : Int):=of_decide_eq_true (by first | (with_reducible assumption) | assumption)
      have hx4:=bt_at a0 x3_1
      replace p4:=eq_true p4
      replace q4:=eq_true q4
      go_wp2_with (first | ((with_reducible refine gate_callee (f:=117) rfl ?_); refine goesL_ (some 13) rfl rfl Tryz.func117 (by kernel_rfl) rfl #[.int .u8 (bt a0 x3_1)] rfl (by (try simp only [List.map_toArray,List.map_cons,List.map_nil]); first | done | rfl | (simp only [List.length_drop,List.length_take]; rfl)) ?_; (with_reducible refine (counterpaneref05_in.calls (bt a0 x3_1) true _ A5.out).mono ?_); rintro e w' ⟨rfl,⟨nd,rfl⟩⟩; refine ⟨_,rfl,?_⟩))
      go_roundg k1
      case measure => have:=HK1.out; omega
      case rel => exact ⟨(wrap64 (x3_1 + 1)),(by first | rfl | (simp; done) | (simp [*]; done)),H',⟨by have:=HK1.out; omega⟩,by repeat (first | exact Drawn0.refl _ | apply Drawn0.step)⟩
     ·replace c6:=Bool.eq_false_iff.mpr c6
      subst c6
      have H1 : (some false) = some r:=by rw [if_neg (show ¬ (false = true) by decide)] at H; exact H
      clear H
      have H:=H1
      clear H1
      obtain rfl:=Option.some.inj H
      have p4 : 0 ≤ (x3_1 : Int):=of_decide_eq_true (by first | (with_reducible assumption) | assumption)
      have q4 : x3_1 < (a0.size : Int):=of_decide_eq_true (by first | (with_reducible assumption) | assumption)
      have hx4:=bt_at a0 x3_1
      replace p4:=eq_true p4
      replace q4:=eq_true q4
      go_wp2_with (first | ((with_reducible refine gate_callee (f:=117) rfl ?_); refine goesL_ (some 13) rfl rfl Tryz.func117 (by kernel_rfl) rfl #[.int .u8 (bt a0 x3_1)] rfl (by (try simp only [List.map_toArray,List.map_cons,List.map_nil]); first | done | rfl | (simp only [List.length_drop,List.length_take]; rfl)) ?_; (with_reducible refine (counterpaneref05_in.calls (bt a0 x3_1) false _ A5.out).mono ?_); rintro e w' ⟨rfl,⟨nd,rfl⟩⟩; refine ⟨_,rfl,?_⟩))
      go_ret
      exact ⟨by first | rfl | (simp; done) | (simp [*]; done) | (simp [show ∀ l : List UInt8,(l != []) = !l.isEmpty from fun l => by cases l <;> rfl]; done),by repeat (first | exact Drawn0.refl _ | apply Drawn0.step)⟩
    ·rw [if_neg c3] at H
     exact absurd H (by simp)
   ·rw [if_neg c2] at H
    have c2b0 : decide (x3_1 < (a0.size : Int)) = false:=decide_eq_false c2
    clear c2
    obtain rfl:=Option.some.inj H
    go_wp2
    go_ret
    exact ⟨by first | rfl | (simp; done) | (simp [*]; done) | (simp [show ∀ l : List UInt8,(l != []) = !l.isEmpty from fun l => by cases l <;> rfl]; done),by repeat (first | exact Drawn0.refl _ | apply Drawn0.step)⟩

end Go.Proofs.YthhohbidjhcjeaaGreatDoor.Q
namespace Go.Proofs.YthhohbidjhcjeaaGreatDoor.Q
open Go.RowKit Go.Proofs.YthhohbidjhcjeaaGreatDoorW.PrintWords Go.Proofs.YthhohbidjhcjeaaGreatDoorW.PrintLast Go.Proofs.YthhohbidjhcjeaaGreatDoorW.PrintMore
attribute [local go_sem] max2_int min2_int max_two min_two max_three min_three max_four min_four   -- for this text's walks alone
set_option linter.unusedVariables false
set_option linter.unusedSimpArgs false

mutual
def counterpaneref08_Right.j0 : Nat → Bool → Int → ByteArray → ByteArray → ByteArray → Int → List ByteArray → List ByteArray → Option (Bool)
 | 0,_,_,_,_,_,_,_,_ => none
 | k + 1,x3,x198000,x198001,x198002,x198003,x198004,x198005,x198006 => if x198000 = 1 then (counterpaneref08_Right.j1 k x3 x198000 (x198000 == 1) x198000 x198001 x198002 x198003 x198004 x198005 x198006) else (if x198000 = 2 then (counterpaneref08_Right.j1 k x3 x198000 (x198000 == 2) x198000 x198001 x198002 x198003 x198004 x198005 x198006) else (if x198000 = 3 then (counterpaneref08_Right.j1 k x3 x198000 (x198000 == 3) x198000 x198001 x198002 x198003 x198004 x198005 x198006) else (if x198000 = 4 then (counterpaneref08_Right.j1 k x3 x198000 (x198000 == 4) x198000 x198001 x198002 x198003 x198004 x198005 x198006) else (if x198000 = 5 then (counterpaneref08_Right.j1 k x3 x198000 (x198000 == 5) x198000 x198001 x198002 x198003 x198004 x198005 x198006) else (counterpaneref08_Right.j1 k x3 x198000 (x198000 == 6) x198000 x198001 x198002 x198003 x198004 x198005 x198006)))))
def counterpaneref08_Right.j1 : Nat → Bool → Int → Bool → Int → ByteArray → ByteArray → ByteArray → Int → List ByteArray → List ByteArray → Option (Bool)
 | 0,_,_,_,_,_,_,_,_,_,_ => none
 | k + 1,x3,x24,x25,x198000,x198001,x198002,x198003,x198004,x198005,x198006 => if x25 = true then (if x3 = true then (if x198003.toList = ([] : List UInt8) then (some (x198002.toList == ([] : List UInt8))) else (some false)) else (some false)) else (if x24 = 7 then (if x198003.toList = ([] : List UInt8) then (if x198002.toList = ([] : List UInt8) then (if x198004 ≥ 0 then (if x198004 ≤ 1073741824 then ((counterpaneref05_Right.f k x198005).bind fun t199 => (if t199 = true then ((counterpaneref05_Right.f k x198006).bind fun t200 => (if t200 = true then (some (decide ((wrap64 ((x198005.length : Int) + (x198006.length : Int))) > 0))) else (some false))) else (some false))) else (some false)) else (some false)) else (some false)) else (some false)) else (if x24 = 8 then (if x3 = true then ((counterpaneref05_Token.f k x198003).bind fun t201 => (if t201 = true then ((counterpaneref05_Token.f k x198002).bind fun t202 => (if t202 = true then (some (x198003.toList != x198002.toList)) else (some false))) else (some false))) else (some false)) else (if x24 = 9 then (if x3 = true then (some (x198003.toList != x198002.toList)) else (some false)) else (if x24 = 10 then (if x3 = true then (if x198003.toList = ([] : List UInt8) then ((counterpaneref04_Right.f k x198002).bind fun t203 => (if t203 = true then ((counterpaneref04_Apart.f x198001 x198002).bind fun t204 => (some t204)) else (some false))) else (some false)) else (some false)) else (some false)))))
end
def counterpaneref08_Right.f (k : Nat) (a0_0 : Int) (a0_1 : ByteArray) (a0_2 : ByteArray) (a0_3 : ByteArray) (a0_4 : Int) (l0_5 : List ByteArray) (l0_6 : List ByteArray) : Option (Bool):=(counterpaneref04_Right.f k a0_1).bind fun t198 => (if t198 = true then (if (l0_5.length : Int) = 0 then (if (l0_6.length : Int) = 0 then (counterpaneref08_Right.j0 k (a0_4 == 0) a0_0 a0_1 a0_2 a0_3 a0_4 l0_5 l0_6) else (counterpaneref08_Right.j0 k false a0_0 a0_1 a0_2 a0_3 a0_4 l0_5 l0_6)) else (counterpaneref08_Right.j0 k false a0_0 a0_1 a0_2 a0_3 a0_4 l0_5 l0_6)) else (some false))
theorem counterpaneref08_Right.mono_l : ∀ k,(∀ y0 y1 y2 y3 y4 y5 y6 y7,LeO (counterpaneref08_Right.j0 k y0 y1 y2 y3 y4 y5 y6 y7) (counterpaneref08_Right.j0 (k + 1) y0 y1 y2 y3 y4 y5 y6 y7)) ∧ (∀ y0 y1 y2 y3 y4 y5 y6 y7 y8 y9,LeO (counterpaneref08_Right.j1 k y0 y1 y2 y3 y4 y5 y6 y7 y8 y9) (counterpaneref08_Right.j1 (k + 1) y0 y1 y2 y3 y4 y5 y6 y7 y8 y9))
 | 0 => ⟨fun _ _ _ _ _ _ _ _ r h => by simp [counterpaneref08_Right.j0] at h,fun _ _ _ _ _ _ _ _ _ _ r h => by simp [counterpaneref08_Right.j1] at h⟩
 | k + 1 => by
  obtain ⟨ih0,ih1⟩:=counterpaneref08_Right.mono_l k
  refine ⟨?_,?_⟩
  ·intro y0 y1 y2 y3 y4 y5 y6 y7
   unfold counterpaneref08_Right.j0
   repeat' first
   | (with_reducible exact ih0 _ _ _ _ _ _ _ _)
   | (with_reducible exact ih1 _ _ _ _ _ _ _ _ _ _)
   | (with_reducible exact counterpaneref04_Right.mono _ _)
   | (with_reducible exact counterpaneref05_Right.mono _ _)
   | (with_reducible exact counterpaneref05_Token.mono _ _)
   | (with_reducible exact LeO.refl _)
   | (with_reducible exact LeO.none _)
   | (with_reducible refine LeO.ite ?_ ?_)
   | (with_reducible refine LeO.bind ?_ (fun _ => ?_))
   | exact ih0 _ _ _ _ _ _ _ _
   | exact ih1 _ _ _ _ _ _ _ _ _ _
   | exact counterpaneref04_Right.mono _ _
   | exact counterpaneref05_Right.mono _ _
   | exact counterpaneref05_Token.mono _ _
   | exact LeO.none _
   | refine LeO.ite ?_ ?_
   | refine LeO.bind ?_ (fun _ => ?_)
  ·intro y0 y1 y2 y3 y4 y5 y6 y7 y8 y9
   unfold counterpaneref08_Right.j1
   repeat' first
   | (with_reducible exact ih0 _ _ _ _ _ _ _ _)
   | (with_reducible exact ih1 _ _ _ _ _ _ _ _ _ _)
   | (with_reducible exact counterpaneref04_Right.mono _ _)
   | (with_reducible exact counterpaneref05_Right.mono _ _)
   | (with_reducible exact counterpaneref05_Token.mono _ _)
   | (with_reducible exact LeO.refl _)
   | (with_reducible exact LeO.none _)
   | (with_reducible refine LeO.ite ?_ ?_)
   | (with_reducible refine LeO.bind ?_ (fun _ => ?_))
   | exact ih0 _ _ _ _ _ _ _ _
   | exact ih1 _ _ _ _ _ _ _ _ _ _
   | exact counterpaneref04_Right.mono _ _
   | exact counterpaneref05_Right.mono _ _
   | exact counterpaneref05_Token.mono _ _
   | exact LeO.none _
   | refine LeO.ite ?_ ?_
   | refine LeO.bind ?_ (fun _ => ?_)
theorem counterpaneref08_Right.mono : ∀ a0 a1 a2 a3 a4 a5 a6 k,LeO (counterpaneref08_Right.f k a0 a1 a2 a3 a4 a5 a6) (counterpaneref08_Right.f (k + 1) a0 a1 a2 a3 a4 a5 a6):=by
 intro a0 a1 a2 a3 a4 a5 a6 k
 obtain ⟨ih0,ih1⟩:=counterpaneref08_Right.mono_l k
 unfold counterpaneref08_Right.f
 repeat' first
   | (with_reducible exact ih0 _ _ _ _ _ _ _ _)
   | (with_reducible exact ih1 _ _ _ _ _ _ _ _ _ _)
   | (with_reducible exact counterpaneref04_Right.mono _ _)
   | (with_reducible exact counterpaneref05_Right.mono _ _)
   | (with_reducible exact counterpaneref05_Token.mono _ _)
   | (with_reducible exact LeO.refl _)
   | (with_reducible exact LeO.none _)
   | (with_reducible refine LeO.ite ?_ ?_)
   | (with_reducible refine LeO.bind ?_ (fun _ => ?_))
   | exact ih0 _ _ _ _ _ _ _ _
   | exact ih1 _ _ _ _ _ _ _ _ _ _
   | exact counterpaneref04_Right.mono _ _
   | exact counterpaneref05_Right.mono _ _
   | exact counterpaneref05_Token.mono _ _
   | exact LeO.none _
   | refine LeO.ite ?_ ?_
   | refine LeO.bind ?_ (fun _ => ?_)
set_option maxHeartbeats 8000000 in
set_option maxRecDepth 100000 in
theorem counterpaneref08_Right.calls (k : Nat) (a0_0 : Int) (a0_1 : ByteArray) (a0_2 : ByteArray) (a0_3 : ByteArray) (a0_4 : Int) (A0_5 : Option Addr) (c0_5 : Nat) (l0_5 : List ByteArray) (A0_6 : Option Addr) (c0_6 : Nat) (l0_6 : List ByteArray) (r : Bool) (w : World) (hr0_5 : Kd.C Kd.string w A0_5 l0_5.length l0_5) (hc0_5 : l0_5.length ≤ c0_5) (hr0_6 : Kd.C Kd.string w A0_6 l0_6.length l0_6) (hc0_6 : l0_6.length ≤ c0_6) (h : counterpaneref08_Right.f k a0_0 a0_1 a0_2 a0_3 a0_4 l0_5 l0_6 = some r) :
  Calls Tryz.prog 26 #[.agg #[.int .i64 a0_0,.string a0_1,.string a0_2,.string a0_3,.int .i64 a0_4,.slice A0_5 l0_5.length c0_5,.slice A0_6 l0_6.length c0_6]] w fun e w' => e = .returned (.bool r) ∧ Below w.heap.size w w':=by
 have hu25:=Tryz.underlying25
 have HR0_5:=Aside0.mk hr0_5
 have HC0_5:=Aside0.mk hc0_5
 clear hr0_5 hc0_5
 have HR0_6:=Aside0.mk hr0_6
 have HC0_6:=Aside0.mk hc0_6
 clear hr0_6 hc0_6
 have HB:=Aside0.mk (Below.refl w.heap.size w)
 have H : ((counterpaneref04_Right.f k a0_1).bind fun t198 => (if t198 = true then (if (l0_5.length : Int) = 0 then (if (l0_6.length : Int) = 0 then (counterpaneref08_Right.j0 k (a0_4 == 0) a0_0 a0_1 a0_2 a0_3 a0_4 l0_5 l0_6) else (counterpaneref08_Right.j0 k false a0_0 a0_1 a0_2 a0_3 a0_4 l0_5 l0_6)) else (counterpaneref08_Right.j0 k false a0_0 a0_1 a0_2 a0_3 a0_4 l0_5 l0_6)) else (some false))) = some r:=h
 clear h
 replace H:=Option.bind_eq_some_iff.mp H
 obtain ⟨t198,A20,H⟩:=H
 replace H : (if t198 = true then (if (l0_5.length : Int) = 0 then (if (l0_6.length : Int) = 0 then (counterpaneref08_Right.j0 k (a0_4 == 0) a0_0 a0_1 a0_2 a0_3 a0_4 l0_5 l0_6) else (counterpaneref08_Right.j0 k false a0_0 a0_1 a0_2 a0_3 a0_4 l0_5 l0_6)) else (counterpaneref08_Right.j0 k false a0_0 a0_1 a0_2 a0_3 a0_4 l0_5 l0_6)) else (some false)) = some r:=H
 have A2:=Aside0.mk A20
 clear A20
 by_cases c3 : t198 = true
 ·subst c3
  have H1 : (if (l0_5.length : Int) = 0 then (if (l0_6.length : Int) = 0 then (counterpaneref08_Right.j0 k (a0_4 == 0) a0_0 a0_1 a0_2 a0_3 a0_4 l0_5 l0_6) else (counterpaneref08_Right.j0 k false a0_0 a0_1 a0_2 a0_3 a0_4 l0_5 l0_6)) else (counterpaneref08_Right.j0 k false a0_0 a0_1 a0_2 a0_3 a0_4 l0_5 l0_6)) = some r:=by rw [if_pos rfl] at H; exact H
  clear H
  have H:=H1
  clear H1
  have HC4:=Aside0.mk H
  clear H
  go_enter Tryz.func26,Tryz.ntmps26
  go_upto_region 3 with (first | ((with_reducible refine gate_dst (N:=1) rfl ?_); (try (refine gate_guard (by rfl) ?_; dsimp only)); refine box_event ?hg (N:=1) ?hd (cs:=#[.int .i64 a0_0,.string a0_1,.string a0_2,.string a0_3,.int .i64 a0_4,.slice A0_5 l0_5.length c0_5,.slice A0_6 l0_6.length c0_6]) (t:=25) ?hr ?_; (case hd => rfl); (case hg => rfl); (case hr => first | (go_simp; done) | (go_simp; rfl)); intro gb197 hg w5 hbox hb; have n0_:=Aside0.mk (below_step (by repeat (first | (with_reducible first | exact HB.out | apply below_alloc | apply pw_below_drewN | apply below_drew1) | exact HB.out)) hb); have n1_:=Aside0.mk (hbox); have n2_:=Aside0.mk ((by rw [hg]; exact (below_size (by repeat (first | (with_reducible first | exact HB.out | apply below_alloc | apply pw_below_drewN | apply below_drew1) | exact HB.out))) : w.heap.size ≤ gb197)); have n3_:=Aside0.mk ((by rw [hg]; exact (below_size (by repeat (first | (with_reducible first | exact HB.out | apply below_alloc | apply pw_below_drewN | apply below_drew1) | exact HB.out))) : w.heap.size ≤ gb197)); clear HB; have HB:=n0_; have BK197:=n1_; have GW197:=n2_; have GE197:=n3_; clear n0_ n1_ n2_ n3_; clear hb hbox hg; have hcz6_0 : w5.cell? ⟨gb197,0,none⟩ = some (.int .i64 a0_0):=(blk_cell BK197.out 0).trans rfl; have hcz6_1 : w5.cell? ⟨gb197,1,none⟩ = some (.string a0_1):=(blk_cell BK197.out 1).trans rfl; have hcz6_2 : w5.cell? ⟨gb197,2,none⟩ = some (.string a0_2):=(blk_cell BK197.out 2).trans rfl; have hcz6_3 : w5.cell? ⟨gb197,3,none⟩ = some (.string a0_3):=(blk_cell BK197.out 3).trans rfl; have hcz6_4 : w5.cell? ⟨gb197,4,none⟩ = some (.int .i64 a0_4):=(blk_cell BK197.out 4).trans rfl; have hcz6_5 : w5.cell? ⟨gb197,5,none⟩ = some (.slice A0_5 l0_5.length c0_5):=(blk_cell BK197.out 5).trans rfl; have hcz6_6 : w5.cell? ⟨gb197,6,none⟩ = some (.slice A0_6 l0_6.length c0_6):=(blk_cell BK197.out 6).trans rfl; have hfz6_0:=blk_frozen BK197.out 0; have hfz6_1:=blk_frozen BK197.out 1; have hfz6_2:=blk_frozen BK197.out 2; have hfz6_3:=blk_frozen BK197.out 3; have hfz6_4:=blk_frozen BK197.out 4; have hfz6_5:=blk_frozen BK197.out 5; have hfz6_6:=blk_frozen BK197.out 6) | ((with_reducible refine gate_callee (f:=36) rfl ?_); refine goesL_ (some 6) rfl rfl Tryz.func36 (by kernel_rfl) rfl #[.string a0_1] rfl (by (try simp only [List.map_toArray,List.map_cons,List.map_nil]); first | done | rfl | (simp only [List.length_drop,List.length_take]; rfl)) ?_; (with_reducible refine (counterpaneref04_Right.calls k a0_1 true _ A2.out).mono ?_); rintro e w' ⟨rfl,⟨nd,rfl⟩⟩; refine ⟨_,rfl,?_⟩))
  (try simp only [Act.put,List.setIfInBounds_toArray,List.set_cons_zero,List.set_cons_succ])
  go_cut [3] (fun v3 wc => ∃ (kq : Nat) (x3_3 : Bool),v3 = .bool x3_3 ∧ Aside0 (counterpaneref08_Right.j0 kq x3_3 a0_0 a0_1 a0_2 a0_3 a0_4 l0_5 l0_6 = some r) ∧ Aside0 (kq ≤ k) ∧ Aside0 (wc.heap[gb197]? = some (.cells #[.int .i64 a0_0,.string a0_1,.string a0_2,.string a0_3,.int .i64 a0_4,(.slice A0_5 l0_5.length c0_5),(.slice A0_6 l0_6.length c0_6)] 25 (0,0))) ∧ Aside0 (Below w.heap.size w wc))
  case first =>
   have H:=HC4.out
   clear HC4
   by_cases c7 : (l0_5.length : Int) = 0
   ·rw [if_pos c7] at H
    have c7b0 : ((l0_5.length : Int) == 0) = true:=beq_iff_eq.mpr c7
    have c7b1 : ((l0_5.length : Int) != 0) = false:=bne_eq_false_iff_eq.mpr c7
    clear c7
    (first | rw [c7b0] | (simp only [i64_w,i32_w]; rw [c7b0]) | skip)
    by_cases c8 : (l0_6.length : Int) = 0
    ·rw [if_pos c8] at H
     have c8b0 : ((l0_6.length : Int) == 0) = true:=beq_iff_eq.mpr c8
     have c8b1 : ((l0_6.length : Int) != 0) = false:=bne_eq_false_iff_eq.mpr c8
     clear c8
     have H':=Aside0.mk H
     clear H
     have hcz9_0 : w5.cell? ⟨gb197,0,none⟩ = some (.int .i64 a0_0):=(blk_cell BK197.out 0).trans rfl
     have hcz9_1 : w5.cell? ⟨gb197,1,none⟩ = some (.string a0_1):=(blk_cell BK197.out 1).trans rfl
     have hcz9_2 : w5.cell? ⟨gb197,2,none⟩ = some (.string a0_2):=(blk_cell BK197.out 2).trans rfl
     have hcz9_3 : w5.cell? ⟨gb197,3,none⟩ = some (.string a0_3):=(blk_cell BK197.out 3).trans rfl
     have hcz9_4 : w5.cell? ⟨gb197,4,none⟩ = some (.int .i64 a0_4):=(blk_cell BK197.out 4).trans rfl
     have hcz9_5 : w5.cell? ⟨gb197,5,none⟩ = some (.slice A0_5 l0_5.length c0_5):=(blk_cell BK197.out 5).trans rfl
     have hcz9_6 : w5.cell? ⟨gb197,6,none⟩ = some (.slice A0_6 l0_6.length c0_6):=(blk_cell BK197.out 6).trans rfl
     have hfz9_0:=blk_frozen BK197.out 0
     have hfz9_1:=blk_frozen BK197.out 1
     have hfz9_2:=blk_frozen BK197.out 2
     have hfz9_3:=blk_frozen BK197.out 3
     have hfz9_4:=blk_frozen BK197.out 4
     have hfz9_5:=blk_frozen BK197.out 5
     have hfz9_6:=blk_frozen BK197.out 6
     go_wp2
     go_meet
     case rel => exact ⟨_,((a0_4 == 0)),(by first | rfl | (simp; done) | (simp [*]; done)),H',⟨by first | omega | exact Nat.le_refl _⟩,⟨by (with_reducible repeat (first | refine blk_drewN ?_ _ | refine blk_drew ?_ | refine blk_alloc ?_ _)); exact BK197.out⟩,⟨by repeat (first | (with_reducible first | exact HB.out | apply below_alloc | apply pw_below_drewN | apply below_drew1 | refine below_set ?_ GE197.out) | exact HB.out)⟩⟩
    ·rw [if_neg c8] at H
     have c8b0 : ((l0_6.length : Int) == 0) = false:=beq_eq_false_iff_ne.mpr c8
     have c8b1 : ((l0_6.length : Int) != 0) = true:=bne_iff_ne.mpr c8
     have c8b2 : ¬ (l0_6 = []):=fun h_ => c8 (by rw [h_]; rfl)
     have H':=Aside0.mk H
     clear H
     have hcz10_0 : w5.cell? ⟨gb197,0,none⟩ = some (.int .i64 a0_0):=(blk_cell BK197.out 0).trans rfl
     have hcz10_1 : w5.cell? ⟨gb197,1,none⟩ = some (.string a0_1):=(blk_cell BK197.out 1).trans rfl
     have hcz10_2 : w5.cell? ⟨gb197,2,none⟩ = some (.string a0_2):=(blk_cell BK197.out 2).trans rfl
     have hcz10_3 : w5.cell? ⟨gb197,3,none⟩ = some (.string a0_3):=(blk_cell BK197.out 3).trans rfl
     have hcz10_4 : w5.cell? ⟨gb197,4,none⟩ = some (.int .i64 a0_4):=(blk_cell BK197.out 4).trans rfl
     have hcz10_5 : w5.cell? ⟨gb197,5,none⟩ = some (.slice A0_5 l0_5.length c0_5):=(blk_cell BK197.out 5).trans rfl
     have hcz10_6 : w5.cell? ⟨gb197,6,none⟩ = some (.slice A0_6 l0_6.length c0_6):=(blk_cell BK197.out 6).trans rfl
     have hfz10_0:=blk_frozen BK197.out 0
     have hfz10_1:=blk_frozen BK197.out 1
     have hfz10_2:=blk_frozen BK197.out 2
     have hfz10_3:=blk_frozen BK197.out 3
     have hfz10_4:=blk_frozen BK197.out 4
     have hfz10_5:=blk_frozen BK197.out 5
     have hfz10_6:=blk_frozen BK197.out 6
     go_wp2
     go_meet
     case rel => exact ⟨_,(false),(by first | rfl | (simp; done) | (simp [*]; done)),H',⟨by first | omega | exact Nat.le_refl _⟩,⟨by (with_reducible repeat (first | refine blk_drewN ?_ _ | refine blk_drew ?_ | refine blk_alloc ?_ _)); exact BK197.out⟩,⟨by repeat (first | (with_reducible first | exact HB.out | apply below_alloc | apply pw_below_drewN | apply below_drew1 | refine below_set ?_ GE197.out) | exact HB.out)⟩⟩
   ·rw [if_neg c7] at H
    have c7b0 : ((l0_5.length : Int) == 0) = false:=beq_eq_false_iff_ne.mpr c7
    have c7b1 : ((l0_5.length : Int) != 0) = true:=bne_iff_ne.mpr c7
    have c7b2 : ¬ (l0_5 = []):=fun h_ => c7 (by rw [h_]; rfl)
    (first | rw [c7b0] | (simp only [i64_w,i32_w]; rw [c7b0]) | skip)
    have H':=Aside0.mk H
    clear H
    have hcz11_0 : w5.cell? ⟨gb197,0,none⟩ = some (.int .i64 a0_0):=(blk_cell BK197.out 0).trans rfl
    have hcz11_1 : w5.cell? ⟨gb197,1,none⟩ = some (.string a0_1):=(blk_cell BK197.out 1).trans rfl
    have hcz11_2 : w5.cell? ⟨gb197,2,none⟩ = some (.string a0_2):=(blk_cell BK197.out 2).trans rfl
    have hcz11_3 : w5.cell? ⟨gb197,3,none⟩ = some (.string a0_3):=(blk_cell BK197.out 3).trans rfl
    have hcz11_4 : w5.cell? ⟨gb197,4,none⟩ = some (.int .i64 a0_4):=(blk_cell BK197.out 4).trans rfl
    have hcz11_5 : w5.cell? ⟨gb197,5,none⟩ = some (.slice A0_5 l0_5.length c0_5):=(blk_cell BK197.out 5).trans rfl
    have hcz11_6 : w5.cell? ⟨gb197,6,none⟩ = some (.slice A0_6 l0_6.length c0_6):=(blk_cell BK197.out 6).trans rfl
    have hfz11_0:=blk_frozen BK197.out 0
    have hfz11_1:=blk_frozen BK197.out 1
    have hfz11_2:=blk_frozen BK197.out 2
    have hfz11_3:=blk_frozen BK197.out 3
    have hfz11_4:=blk_frozen BK197.out 4
    have hfz11_5:=blk_frozen BK197.out 5
    have hfz11_6:=blk_frozen BK197.out 6
    go_wp2
    go_meet
    case rel => exact ⟨_,(false),(by first | rfl | (simp; done) | (simp [*]; done)),H',⟨by first | omega | exact Nat.le_refl _⟩,⟨by (with_reducible repeat (first | refine blk_drewN ?_ _ | refine blk_drew ?_ | refine blk_alloc ?_ _)); exact BK197.out⟩,⟨by repeat (first | (with_reducible first | exact HB.out | apply below_alloc | apply pw_below_drewN | apply below_drew1 | refine below_set ?_ GE197.out) | exact HB.out)⟩⟩
  case rest =>
   clear HC4
   try clear c2
   try clear p2
   try clear c3
   try clear c7
   try clear c7b0
   try clear c7b1
   try clear c7b2
   try clear c8
   try clear c8b0
   try clear c8b1
   try clear c8b2
   try clear hcz10_0
   try clear hcz10_1
   try clear hcz10_2
   try clear hcz10_3
   try clear hcz10_4
   try clear hcz10_5
   try clear hcz10_6
   try clear hcz11_0
   try clear hcz11_1
   try clear hcz11_2
   try clear hcz11_3
   try clear hcz11_4
   try clear hcz11_5
   try clear hcz11_6
   try clear hcz6_0
   try clear hcz6_1
   try clear hcz6_2
   try clear hcz6_3
   try clear hcz6_4
   try clear hcz6_5
   try clear hcz6_6
   try clear hcz9_0
   try clear hcz9_1
   try clear hcz9_2
   try clear hcz9_3
   try clear hcz9_4
   try clear hcz9_5
   try clear hcz9_6
   try clear hfz10_0
   try clear hfz10_1
   try clear hfz10_2
   try clear hfz10_3
   try clear hfz10_4
   try clear hfz10_5
   try clear hfz10_6
   try clear hfz11_0
   try clear hfz11_1
   try clear hfz11_2
   try clear hfz11_3
   try clear hfz11_4
   try clear hfz11_5
   try clear hfz11_6
   try clear hfz6_0
   try clear hfz6_1
   try clear hfz6_2
   try clear hfz6_3
   try clear hfz6_4
   try clear hfz6_5
   try clear hfz6_6
   try clear hfz9_0
   try clear hfz9_1
   try clear hfz9_2
   try clear hfz9_3
   try clear hfz9_4
   try clear hfz9_5
   try clear hfz9_6
   obtain ⟨kq,x3_3,rfl,HA,HJ3,BK197,HB⟩:=hcut
   cases kq with
   | zero => exact absurd HA.out (by simp [counterpaneref08_Right.j0])
   | succ kj3 =>
    have H:=HA.out
    clear HA
    simp only [counterpaneref08_Right.j0] at H
    have HC12:=Aside0.mk H
    clear H
    have hcz13_0 : wc.cell? ⟨gb197,0,none⟩ = some (.int .i64 a0_0):=(blk_cell BK197.out 0).trans rfl
    have hcz13_1 : wc.cell? ⟨gb197,1,none⟩ = some (.string a0_1):=(blk_cell BK197.out 1).trans rfl
    have hcz13_2 : wc.cell? ⟨gb197,2,none⟩ = some (.string a0_2):=(blk_cell BK197.out 2).trans rfl
    have hcz13_3 : wc.cell? ⟨gb197,3,none⟩ = some (.string a0_3):=(blk_cell BK197.out 3).trans rfl
    have hcz13_4 : wc.cell? ⟨gb197,4,none⟩ = some (.int .i64 a0_4):=(blk_cell BK197.out 4).trans rfl
    have hcz13_5 : wc.cell? ⟨gb197,5,none⟩ = some (.slice A0_5 l0_5.length c0_5):=(blk_cell BK197.out 5).trans rfl
    have hcz13_6 : wc.cell? ⟨gb197,6,none⟩ = some (.slice A0_6 l0_6.length c0_6):=(blk_cell BK197.out 6).trans rfl
    have hfz13_0:=blk_frozen BK197.out 0
    have hfz13_1:=blk_frozen BK197.out 1
    have hfz13_2:=blk_frozen BK197.out 2
    have hfz13_3:=blk_frozen BK197.out 3
    have hfz13_4:=blk_frozen BK197.out 4
    have hfz13_5:=blk_frozen BK197.out 5
    have hfz13_6:=blk_frozen BK197.out 6
    go_upto_if 25 with (fail)
    go_cut [25] (fun v25 wc => ∃ (kq : Nat) (x25_11 : Bool),v25 = .bool x25_11 ∧ Aside0 (counterpaneref08_Right.j1 kq x3_3 a0_0 x25_11 a0_0 a0_1 a0_2 a0_3 a0_4 l0_5 l0_6 = some r) ∧ Aside0 (kq ≤ kj3) ∧ Aside0 (wc.heap[gb197]? = some (.cells #[.int .i64 a0_0,.string a0_1,.string a0_2,.string a0_3,.int .i64 a0_4,(.slice A0_5 l0_5.length c0_5),(.slice A0_6 l0_6.length c0_6)] 25 (0,0))) ∧ Aside0 (Below w.heap.size w wc))
    case first =>
     have H:=HC12.out
     clear HC12
     by_cases c14 : a0_0 = 1
     ·rw [if_pos c14] at H
      have c14b0 : (a0_0 == 1) = true:=beq_iff_eq.mpr c14
      have c14b1 : (a0_0 != 1) = false:=bne_eq_false_iff_eq.mpr c14
      clear c14
      (first | rw [c14b0] | (simp only [i64_w,i32_w]; rw [c14b0]) | skip)
      have H':=Aside0.mk H
      clear H
      go_wp2
      go_meet
      case rel => exact ⟨_,((a0_0 == 1)),(by first | rfl | (simp; done) | (simp [*]; done)),H',⟨by have:=HJ3.out; first | omega | exact Nat.le_refl _⟩,⟨by (with_reducible repeat (first | refine blk_drewN ?_ _ | refine blk_drew ?_ | refine blk_alloc ?_ _)); exact BK197.out⟩,⟨by repeat (first | (with_reducible first | exact HB.out | apply below_alloc | apply pw_below_drewN | apply below_drew1 | refine below_set ?_ GE197.out) | exact HB.out)⟩⟩
     ·rw [if_neg c14] at H
      have c14b0 : (a0_0 == 1) = false:=beq_eq_false_iff_ne.mpr c14
      have c14b1 : (a0_0 != 1) = true:=bne_iff_ne.mpr c14
      (first | rw [c14b0] | (simp only [i64_w,i32_w]; rw [c14b0]) | skip)
      by_cases c15 : a0_0 = 2
      ·rw [if_pos c15] at H
       have c15b0 : (a0_0 == 2) = true:=beq_iff_eq.mpr c15
       have c15b1 : (a0_0 != 2) = false:=bne_eq_false_iff_eq.mpr c15
       clear c15
       have H':=Aside0.mk H
       clear H
       go_wp2
       go_meet
       case rel => exact ⟨_,((a0_0 == 2)),(by first | rfl | (simp; done) | (simp [*]; done)),H',⟨by have:=HJ3.out; first | omega | exact Nat.le_refl _⟩,⟨by (with_reducible repeat (first | refine blk_drewN ?_ _ | refine blk_drew ?_ | refine blk_alloc ?_ _)); exact BK197.out⟩,⟨by repeat (first | (with_reducible first | exact HB.out | apply below_alloc | apply pw_below_drewN | apply below_drew1 | refine below_set ?_ GE197.out) | exact HB.out)⟩⟩
      ·rw [if_neg c15] at H
       have c15b0 : (a0_0 == 2) = false:=beq_eq_false_iff_ne.mpr c15
       have c15b1 : (a0_0 != 2) = true:=bne_iff_ne.mpr c15
       by_cases c16 : a0_0 = 3
       ·rw [if_pos c16] at H
        have c16b0 : (a0_0 == 3) = true:=beq_iff_eq.mpr c16
        have c16b1 : (a0_0 != 3) = false:=bne_eq_false_iff_eq.mpr c16
        clear c16
        have H':=Aside0.mk H
        clear H
        go_wp2
        go_meet
        case rel => exact ⟨_,((a0_0 == 3)),(by first | rfl | (simp; done) | (simp [*]; done)),H',⟨by have:=HJ3.out; first | omega | exact Nat.le_refl _⟩,⟨by (with_reducible repeat (first | refine blk_drewN ?_ _ | refine blk_drew ?_ | refine blk_alloc ?_ _)); exact BK197.out⟩,⟨by repeat (first | (with_reducible first | exact HB.out | apply below_alloc | apply pw_below_drewN | apply below_drew1 | refine below_set ?_ GE197.out) | exact HB.out)⟩⟩
       ·rw [if_neg c16] at H
        have c16b0 : (a0_0 == 3) = false:=beq_eq_false_iff_ne.mpr c16
        have c16b1 : (a0_0 != 3) = true:=bne_iff_ne.mpr c16
        by_cases c17 : a0_0 = 4
        ·rw [if_pos c17] at H
         have c17b0 : (a0_0 == 4) = true:=beq_iff_eq.mpr c17
         have c17b1 : (a0_0 != 4) = false:=bne_eq_false_iff_eq.mpr c17
         clear c17
         have H':=Aside0.mk H
         clear H
         go_wp2
         go_meet
         case rel => exact ⟨_,((a0_0 == 4)),(by first | rfl | (simp; done) | (simp [*]; done)),H',⟨by have:=HJ3.out; first | omega | exact Nat.le_refl _⟩,⟨by (with_reducible repeat (first | refine blk_drewN ?_ _ | refine blk_drew ?_ | refine blk_alloc ?_ _)); exact BK197.out⟩,⟨by repeat (first | (with_reducible first | exact HB.out | apply below_alloc | apply pw_below_drewN | apply below_drew1 | refine below_set ?_ GE197.out) | exact HB.out)⟩⟩
        ·rw [if_neg c17] at H
         have c17b0 : (a0_0 == 4) = false:=beq_eq_false_iff_ne.mpr c17
         have c17b1 : (a0_0 != 4) = true:=bne_iff_ne.mpr c17
         by_cases c18 : a0_0 = 5
         ·rw [if_pos c18] at H
          have c18b0 : (a0_0 == 5) = true:=beq_iff_eq.mpr c18
          have c18b1 : (a0_0 != 5) = false:=bne_eq_false_iff_eq.mpr c18
          clear c18
          have H':=Aside0.mk H
          clear H
          go_wp2
          go_meet
          case rel => exact ⟨_,((a0_0 == 5)),(by first | rfl | (simp; done) | (simp [*]; done)),H',⟨by have:=HJ3.out; first | omega | exact Nat.le_refl _⟩,⟨by (with_reducible repeat (first | refine blk_drewN ?_ _ | refine blk_drew ?_ | refine blk_alloc ?_ _)); exact BK197.out⟩,⟨by repeat (first | (with_reducible first | exact HB.out | apply below_alloc | apply pw_below_drewN | apply below_drew1 | refine below_set ?_ GE197.out) | exact HB.out)⟩⟩
         ·rw [if_neg c18] at H
          have c18b0 : (a0_0 == 5) = false:=beq_eq_false_iff_ne.mpr c18
          have c18b1 : (a0_0 != 5) = true:=bne_iff_ne.mpr c18
          have H':=Aside0.mk H
          clear H
          go_wp2
          go_meet
          case rel => exact ⟨_,((a0_0 == 6)),(by first | rfl | (simp; done) | (simp [*]; done)),H',⟨by have:=HJ3.out; first | omega | exact Nat.le_refl _⟩,⟨by (with_reducible repeat (first | refine blk_drewN ?_ _ | refine blk_drew ?_ | refine blk_alloc ?_ _)); exact BK197.out⟩,⟨by repeat (first | (with_reducible first | exact HB.out | apply below_alloc | apply pw_below_drewN | apply below_drew1 | refine below_set ?_ GE197.out) | exact HB.out)⟩⟩
    case rest =>
     clear HC12
     try clear c1
     try clear c2
     try clear p2
     try clear c3
     try clear c7
     try clear c7b0
     try clear c7b1
     try clear c7b2
     try clear c8
     try clear c8b0
     try clear c8b1
     try clear c8b2
     try clear c14
     try clear c14b0
     try clear c14b1
     try clear c15
     try clear c15b0
     try clear c15b1
     try clear c16
     try clear c16b0
     try clear c16b1
     try clear c17
     try clear c17b0
     try clear c17b1
     try clear c18
     try clear c18b0
     try clear c18b1
     try clear hcz10_0
     try clear hcz10_1
     try clear hcz10_2
     try clear hcz10_3
     try clear hcz10_4
     try clear hcz10_5
     try clear hcz10_6
     try clear hcz11_0
     try clear hcz11_1
     try clear hcz11_2
     try clear hcz11_3
     try clear hcz11_4
     try clear hcz11_5
     try clear hcz11_6
     try clear hcz13_0
     try clear hcz13_1
     try clear hcz13_2
     try clear hcz13_3
     try clear hcz13_4
     try clear hcz13_5
     try clear hcz13_6
     try clear hcz6_0
     try clear hcz6_1
     try clear hcz6_2
     try clear hcz6_3
     try clear hcz6_4
     try clear hcz6_5
     try clear hcz6_6
     try clear hcz9_0
     try clear hcz9_1
     try clear hcz9_2
     try clear hcz9_3
     try clear hcz9_4
     try clear hcz9_5
     try clear hcz9_6
     try clear hfz10_0
     try clear hfz10_1
     try clear hfz10_2
     try clear hfz10_3
     try clear hfz10_4
     try clear hfz10_5
     try clear hfz10_6
     try clear hfz11_0
     try clear hfz11_1
     try clear hfz11_2
     try clear hfz11_3
     try clear hfz11_4
     try clear hfz11_5
     try clear hfz11_6
     try clear hfz13_0
     try clear hfz13_1
     try clear hfz13_2
     try clear hfz13_3
     try clear hfz13_4
     try clear hfz13_5
     try clear hfz13_6
     try clear hfz6_0
     try clear hfz6_1
     try clear hfz6_2
     try clear hfz6_3
     try clear hfz6_4
     try clear hfz6_5
     try clear hfz6_6
     try clear hfz9_0
     try clear hfz9_1
     try clear hfz9_2
     try clear hfz9_3
     try clear hfz9_4
     try clear hfz9_5
     try clear hfz9_6
     try clear p2
     obtain ⟨kq,x25_11,rfl,HA,HJ11,BK197,HB⟩:=hcut
     cases kq with
     | zero => exact absurd HA.out (by simp [counterpaneref08_Right.j1])
     | succ kj11 =>
      have H:=HA.out
      clear HA
      simp only [counterpaneref08_Right.j1] at H
      by_cases c19 : x25_11 = true
      ·subst c19
       have H1 : (if x3_3 = true then (if a0_3.toList = ([] : List UInt8) then (some (a0_2.toList == ([] : List UInt8))) else (some false)) else (some false)) = some r:=by rw [if_pos rfl] at H; exact H
       clear H
       have H:=H1
       clear H1
       by_cases c20 : x3_3 = true
       ·subst c20
        have H1 : (if a0_3.toList = ([] : List UInt8) then (some (a0_2.toList == ([] : List UInt8))) else (some false)) = some r:=by rw [if_pos rfl] at H; exact H
        clear H
        have H:=H1
        clear H1
        by_cases c21 : a0_3.toList = ([] : List UInt8)
        ·rw [if_pos c21] at H
         have c21b0 : (a0_3.toList == ([] : List UInt8)) = true:=beq_iff_eq.mpr c21
         have c21b1 : (a0_3.toList != ([] : List UInt8)) = false:=bne_eq_false_iff_eq.mpr c21
         clear c21
         obtain rfl:=Option.some.inj H
         have hcz22_0 : wc.cell? ⟨gb197,0,none⟩ = some (.int .i64 a0_0):=(blk_cell BK197.out 0).trans rfl
         have hcz22_1 : wc.cell? ⟨gb197,1,none⟩ = some (.string a0_1):=(blk_cell BK197.out 1).trans rfl
         have hcz22_2 : wc.cell? ⟨gb197,2,none⟩ = some (.string a0_2):=(blk_cell BK197.out 2).trans rfl
         have hcz22_3 : wc.cell? ⟨gb197,3,none⟩ = some (.string a0_3):=(blk_cell BK197.out 3).trans rfl
         have hcz22_4 : wc.cell? ⟨gb197,4,none⟩ = some (.int .i64 a0_4):=(blk_cell BK197.out 4).trans rfl
         have hcz22_5 : wc.cell? ⟨gb197,5,none⟩ = some (.slice A0_5 l0_5.length c0_5):=(blk_cell BK197.out 5).trans rfl
         have hcz22_6 : wc.cell? ⟨gb197,6,none⟩ = some (.slice A0_6 l0_6.length c0_6):=(blk_cell BK197.out 6).trans rfl
         have hfz22_0:=blk_frozen BK197.out 0
         have hfz22_1:=blk_frozen BK197.out 1
         have hfz22_2:=blk_frozen BK197.out 2
         have hfz22_3:=blk_frozen BK197.out 3
         have hfz22_4:=blk_frozen BK197.out 4
         have hfz22_5:=blk_frozen BK197.out 5
         have hfz22_6:=blk_frozen BK197.out 6
         go_wp2
         go_ret
         exact ⟨by first | rfl | (simp [errW_none,errW_some] <;> rfl) | (simp [*,errW_none,errW_some] <;> rfl),by repeat (first | (with_reducible first | exact HB.out | apply below_alloc | apply pw_below_drewN | apply below_drew1 | refine below_set ?_ GE197.out) | exact HB.out)⟩
        ·rw [if_neg c21] at H
         have c21b0 : (a0_3.toList == ([] : List UInt8)) = false:=beq_eq_false_iff_ne.mpr c21
         have c21b1 : (a0_3.toList != ([] : List UInt8)) = true:=bne_iff_ne.mpr c21
         obtain rfl:=Option.some.inj H
         have hcz23_0 : wc.cell? ⟨gb197,0,none⟩ = some (.int .i64 a0_0):=(blk_cell BK197.out 0).trans rfl
         have hcz23_1 : wc.cell? ⟨gb197,1,none⟩ = some (.string a0_1):=(blk_cell BK197.out 1).trans rfl
         have hcz23_2 : wc.cell? ⟨gb197,2,none⟩ = some (.string a0_2):=(blk_cell BK197.out 2).trans rfl
         have hcz23_3 : wc.cell? ⟨gb197,3,none⟩ = some (.string a0_3):=(blk_cell BK197.out 3).trans rfl
         have hcz23_4 : wc.cell? ⟨gb197,4,none⟩ = some (.int .i64 a0_4):=(blk_cell BK197.out 4).trans rfl
         have hcz23_5 : wc.cell? ⟨gb197,5,none⟩ = some (.slice A0_5 l0_5.length c0_5):=(blk_cell BK197.out 5).trans rfl
         have hcz23_6 : wc.cell? ⟨gb197,6,none⟩ = some (.slice A0_6 l0_6.length c0_6):=(blk_cell BK197.out 6).trans rfl
         have hfz23_0:=blk_frozen BK197.out 0
         have hfz23_1:=blk_frozen BK197.out 1
         have hfz23_2:=blk_frozen BK197.out 2
         have hfz23_3:=blk_frozen BK197.out 3
         have hfz23_4:=blk_frozen BK197.out 4
         have hfz23_5:=blk_frozen BK197.out 5
         have hfz23_6:=blk_frozen BK197.out 6
         go_wp2
         go_ret
         exact ⟨by first | rfl | (simp [errW_none,errW_some] <;> rfl) | (simp [*,errW_none,errW_some] <;> rfl),by repeat (first | (with_reducible first | exact HB.out | apply below_alloc | apply pw_below_drewN | apply below_drew1 | refine below_set ?_ GE197.out) | exact HB.out)⟩
       ·replace c20:=Bool.eq_false_iff.mpr c20
        subst c20
        have H1 : (some false) = some r:=by rw [if_neg (show ¬ (false = true) by decide)] at H; exact H
        clear H
        have H:=H1
        clear H1
        obtain rfl:=Option.some.inj H
        go_wp2
        go_ret
        exact ⟨by first | rfl | (simp [errW_none,errW_some] <;> rfl) | (simp [*,errW_none,errW_some] <;> rfl),by repeat (first | (with_reducible first | exact HB.out | apply below_alloc | apply pw_below_drewN | apply below_drew1 | refine below_set ?_ GE197.out) | exact HB.out)⟩
      ·replace c19:=Bool.eq_false_iff.mpr c19
       subst c19
       have H1 : (if a0_0 = 7 then (if a0_3.toList = ([] : List UInt8) then (if a0_2.toList = ([] : List UInt8) then (if a0_4 ≥ 0 then (if a0_4 ≤ 1073741824 then ((counterpaneref05_Right.f kj11 l0_5).bind fun t199 => (if t199 = true then ((counterpaneref05_Right.f kj11 l0_6).bind fun t200 => (if t200 = true then (some (decide ((wrap64 ((l0_5.length : Int) + (l0_6.length : Int))) > 0))) else (some false))) else (some false))) else (some false)) else (some false)) else (some false)) else (some false)) else (if a0_0 = 8 then (if x3_3 = true then ((counterpaneref05_Token.f kj11 a0_3).bind fun t201 => (if t201 = true then ((counterpaneref05_Token.f kj11 a0_2).bind fun t202 => (if t202 = true then (some (a0_3.toList != a0_2.toList)) else (some false))) else (some false))) else (some false)) else (if a0_0 = 9 then (if x3_3 = true then (some (a0_3.toList != a0_2.toList)) else (some false)) else (if a0_0 = 10 then (if x3_3 = true then (if a0_3.toList = ([] : List UInt8) then ((counterpaneref04_Right.f kj11 a0_2).bind fun t203 => (if t203 = true then ((counterpaneref04_Apart.f a0_1 a0_2).bind fun t204 => (some t204)) else (some false))) else (some false)) else (some false)) else (some false))))) = some r:=by rw [if_neg (show ¬ (false = true) by decide)] at H; exact H
       clear H
       have H:=H1
       clear H1
       by_cases c24 : a0_0 = 7
       ·rw [if_pos c24] at H
        have c24b0 : (a0_0 == 7) = true:=beq_iff_eq.mpr c24
        have c24b1 : (a0_0 != 7) = false:=bne_eq_false_iff_eq.mpr c24
        clear c24
        by_cases c25 : a0_3.toList = ([] : List UInt8)
        ·rw [if_pos c25] at H
         have c25b0 : (a0_3.toList == ([] : List UInt8)) = true:=beq_iff_eq.mpr c25
         have c25b1 : (a0_3.toList != ([] : List UInt8)) = false:=bne_eq_false_iff_eq.mpr c25
         clear c25
         by_cases c26 : a0_2.toList = ([] : List UInt8)
         ·rw [if_pos c26] at H
          have c26b0 : (a0_2.toList == ([] : List UInt8)) = true:=beq_iff_eq.mpr c26
          have c26b1 : (a0_2.toList != ([] : List UInt8)) = false:=bne_eq_false_iff_eq.mpr c26
          clear c26
          by_cases c27 : a0_4 ≥ 0
          ·rw [if_pos c27] at H
           have c27b0 : decide (0 ≤ a0_4) = true:=decide_eq_true c27
           clear c27
           by_cases c28 : a0_4 ≤ 1073741824
           ·rw [if_pos c28] at H
            have c28b0 : decide (a0_4 ≤ 1073741824) = true:=decide_eq_true c28
            clear c28
            replace H:=Option.bind_eq_some_iff.mp H
            obtain ⟨t199,A290,H⟩:=H
            replace H : (if t199 = true then ((counterpaneref05_Right.f kj11 l0_6).bind fun t200 => (if t200 = true then (some (decide ((wrap64 ((l0_5.length : Int) + (l0_6.length : Int))) > 0))) else (some false))) else (some false)) = some r:=H
            have A29:=Aside0.mk A290
            clear A290
            by_cases c30 : t199 = true
            ·subst c30
             have H1 : ((counterpaneref05_Right.f kj11 l0_6).bind fun t200 => (if t200 = true then (some (decide ((wrap64 ((l0_5.length : Int) + (l0_6.length : Int))) > 0))) else (some false))) = some r:=by rw [if_pos rfl] at H; exact H
             clear H
             have H:=H1
             clear H1
             replace H:=Option.bind_eq_some_iff.mp H
             obtain ⟨t200,A310,H⟩:=H
             replace H : (if t200 = true then (some (decide ((wrap64 ((l0_5.length : Int) + (l0_6.length : Int))) > 0))) else (some false)) = some r:=H
             have A31:=Aside0.mk A310
             clear A310
             by_cases c32 : t200 = true
             ·subst c32
              have H1 : (some (decide ((wrap64 ((l0_5.length : Int) + (l0_6.length : Int))) > 0))) = some r:=by rw [if_pos rfl] at H; exact H
              clear H
              have H:=H1
              clear H1
              obtain rfl:=Option.some.inj H
              have hcz33_0 : wc.cell? ⟨gb197,0,none⟩ = some (.int .i64 a0_0):=(blk_cell BK197.out 0).trans rfl
              have hcz33_1 : wc.cell? ⟨gb197,1,none⟩ = some (.string a0_1):=(blk_cell BK197.out 1).trans rfl
              have hcz33_2 : wc.cell? ⟨gb197,2,none⟩ = some (.string a0_2):=(blk_cell BK197.out 2).trans rfl
              have hcz33_3 : wc.cell? ⟨gb197,3,none⟩ = some (.string a0_3):=(blk_cell BK197.out 3).trans rfl
              have hcz33_4 : wc.cell? ⟨gb197,4,none⟩ = some (.int .i64 a0_4):=(blk_cell BK197.out 4).trans rfl
              have hcz33_5 : wc.cell? ⟨gb197,5,none⟩ = some (.slice A0_5 l0_5.length c0_5):=(blk_cell BK197.out 5).trans rfl
              have hcz33_6 : wc.cell? ⟨gb197,6,none⟩ = some (.slice A0_6 l0_6.length c0_6):=(blk_cell BK197.out 6).trans rfl
              have hfz33_0:=blk_frozen BK197.out 0
              have hfz33_1:=blk_frozen BK197.out 1
              have hfz33_2:=blk_frozen BK197.out 2
              have hfz33_3:=blk_frozen BK197.out 3
              have hfz33_4:=blk_frozen BK197.out 4
              have hfz33_5:=blk_frozen BK197.out 5
              have hfz33_6:=blk_frozen BK197.out 6
              go_wp2_with (first | (go_at_call 70; (with_reducible refine (counterpaneref05_Right.calls kj11 _ _ l0_5 true _ ?side1 ?side2 A29.out).mono ?_); (case side1 => repeat (first | exact (Kd.C_below HR0_5.out HB.out) | (with_reducible refine Kd.C_alloc ?_ _) | (with_reducible refine Kd.C_drewN ?_ _) | (with_reducible refine Kd.C_drew ?_))); (case side2 => exact HC0_5.out); rintro e w' ⟨rfl,⟨nd,rfl⟩⟩) | (go_at_call 70; (with_reducible refine (counterpaneref05_Right.calls kj11 _ _ l0_6 true _ ?side1 ?side2 A31.out).mono ?_); (case side1 => repeat (first | exact (Kd.C_below HR0_6.out (by repeat (first | (with_reducible first | exact HB.out | apply below_alloc | apply pw_below_drewN | apply below_drew1 | refine below_set ?_ GE197.out) | exact HB.out))) | (with_reducible refine Kd.C_alloc ?_ _) | (with_reducible refine Kd.C_drewN ?_ _) | (with_reducible refine Kd.C_drew ?_))); (case side2 => exact HC0_6.out); rintro e w' ⟨rfl,⟨nd,rfl⟩⟩))
              go_ret
              exact ⟨by first | rfl | (simp [errW_none,errW_some] <;> rfl) | (simp [*,errW_none,errW_some] <;> rfl),by repeat (first | (with_reducible first | exact HB.out | apply below_alloc | apply pw_below_drewN | apply below_drew1 | refine below_set ?_ GE197.out) | exact HB.out)⟩
             ·replace c32:=Bool.eq_false_iff.mpr c32
              subst c32
              have H1 : (some false) = some r:=by rw [if_neg (show ¬ (false = true) by decide)] at H; exact H
              clear H
              have H:=H1
              clear H1
              obtain rfl:=Option.some.inj H
              have hcz34_0 : wc.cell? ⟨gb197,0,none⟩ = some (.int .i64 a0_0):=(blk_cell BK197.out 0).trans rfl
              have hcz34_1 : wc.cell? ⟨gb197,1,none⟩ = some (.string a0_1):=(blk_cell BK197.out 1).trans rfl
              have hcz34_2 : wc.cell? ⟨gb197,2,none⟩ = some (.string a0_2):=(blk_cell BK197.out 2).trans rfl
              have hcz34_3 : wc.cell? ⟨gb197,3,none⟩ = some (.string a0_3):=(blk_cell BK197.out 3).trans rfl
              have hcz34_4 : wc.cell? ⟨gb197,4,none⟩ = some (.int .i64 a0_4):=(blk_cell BK197.out 4).trans rfl
              have hcz34_5 : wc.cell? ⟨gb197,5,none⟩ = some (.slice A0_5 l0_5.length c0_5):=(blk_cell BK197.out 5).trans rfl
              have hcz34_6 : wc.cell? ⟨gb197,6,none⟩ = some (.slice A0_6 l0_6.length c0_6):=(blk_cell BK197.out 6).trans rfl
              have hfz34_0:=blk_frozen BK197.out 0
              have hfz34_1:=blk_frozen BK197.out 1
              have hfz34_2:=blk_frozen BK197.out 2
              have hfz34_3:=blk_frozen BK197.out 3
              have hfz34_4:=blk_frozen BK197.out 4
              have hfz34_5:=blk_frozen BK197.out 5
              have hfz34_6:=blk_frozen BK197.out 6
              go_wp2_with (first | (go_at_call 70; (with_reducible refine (counterpaneref05_Right.calls kj11 _ _ l0_5 true _ ?side1 ?side2 A29.out).mono ?_); (case side1 => repeat (first | exact (Kd.C_below HR0_5.out HB.out) | (with_reducible refine Kd.C_alloc ?_ _) | (with_reducible refine Kd.C_drewN ?_ _) | (with_reducible refine Kd.C_drew ?_))); (case side2 => exact HC0_5.out); rintro e w' ⟨rfl,⟨nd,rfl⟩⟩) | (go_at_call 70; (with_reducible refine (counterpaneref05_Right.calls kj11 _ _ l0_6 false _ ?side1 ?side2 A31.out).mono ?_); (case side1 => repeat (first | exact (Kd.C_below HR0_6.out (by repeat (first | (with_reducible first | exact HB.out | apply below_alloc | apply pw_below_drewN | apply below_drew1 | refine below_set ?_ GE197.out) | exact HB.out))) | (with_reducible refine Kd.C_alloc ?_ _) | (with_reducible refine Kd.C_drewN ?_ _) | (with_reducible refine Kd.C_drew ?_))); (case side2 => exact HC0_6.out); rintro e w' ⟨rfl,⟨nd,rfl⟩⟩))
              go_ret
              exact ⟨by first | rfl | (simp [errW_none,errW_some] <;> rfl) | (simp [*,errW_none,errW_some] <;> rfl),by repeat (first | (with_reducible first | exact HB.out | apply below_alloc | apply pw_below_drewN | apply below_drew1 | refine below_set ?_ GE197.out) | exact HB.out)⟩
            ·replace c30:=Bool.eq_false_iff.mpr c30
             subst c30
             have H1 : (some false) = some r:=by rw [if_neg (show ¬ (false = true) by decide)] at H; exact H
             clear H
             have H:=H1
             clear H1
             obtain rfl:=Option.some.inj H
             have hcz35_0 : wc.cell? ⟨gb197,0,none⟩ = some (.int .i64 a0_0):=(blk_cell BK197.out 0).trans rfl
             have hcz35_1 : wc.cell? ⟨gb197,1,none⟩ = some (.string a0_1):=(blk_cell BK197.out 1).trans rfl
             have hcz35_2 : wc.cell? ⟨gb197,2,none⟩ = some (.string a0_2):=(blk_cell BK197.out 2).trans rfl
             have hcz35_3 : wc.cell? ⟨gb197,3,none⟩ = some (.string a0_3):=(blk_cell BK197.out 3).trans rfl
             have hcz35_4 : wc.cell? ⟨gb197,4,none⟩ = some (.int .i64 a0_4):=(blk_cell BK197.out 4).trans rfl
             have hcz35_5 : wc.cell? ⟨gb197,5,none⟩ = some (.slice A0_5 l0_5.length c0_5):=(blk_cell BK197.out 5).trans rfl
             have hcz35_6 : wc.cell? ⟨gb197,6,none⟩ = some (.slice A0_6 l0_6.length c0_6):=(blk_cell BK197.out 6).trans rfl
             have hfz35_0:=blk_frozen BK197.out 0
             have hfz35_1:=blk_frozen BK197.out 1
             have hfz35_2:=blk_frozen BK197.out 2
             have hfz35_3:=blk_frozen BK197.out 3
             have hfz35_4:=blk_frozen BK197.out 4
             have hfz35_5:=blk_frozen BK197.out 5
             have hfz35_6:=blk_frozen BK197.out 6
             go_wp2_with (first | (go_at_call 70; (with_reducible refine (counterpaneref05_Right.calls kj11 _ _ l0_5 false _ ?side1 ?side2 A29.out).mono ?_); (case side1 => repeat (first | exact (Kd.C_below HR0_5.out HB.out) | (with_reducible refine Kd.C_alloc ?_ _) | (with_reducible refine Kd.C_drewN ?_ _) | (with_reducible refine Kd.C_drew ?_))); (case side2 => exact HC0_5.out); rintro e w' ⟨rfl,⟨nd,rfl⟩⟩))
             go_ret
             exact ⟨by first | rfl | (simp [errW_none,errW_some] <;> rfl) | (simp [*,errW_none,errW_some] <;> rfl),by repeat (first | (with_reducible first | exact HB.out | apply below_alloc | apply pw_below_drewN | apply below_drew1 | refine below_set ?_ GE197.out) | exact HB.out)⟩
           ·rw [if_neg c28] at H
            have c28b0 : decide (a0_4 ≤ 1073741824) = false:=decide_eq_false c28
            clear c28
            obtain rfl:=Option.some.inj H
            have hcz36_0 : wc.cell? ⟨gb197,0,none⟩ = some (.int .i64 a0_0):=(blk_cell BK197.out 0).trans rfl
            have hcz36_1 : wc.cell? ⟨gb197,1,none⟩ = some (.string a0_1):=(blk_cell BK197.out 1).trans rfl
            have hcz36_2 : wc.cell? ⟨gb197,2,none⟩ = some (.string a0_2):=(blk_cell BK197.out 2).trans rfl
            have hcz36_3 : wc.cell? ⟨gb197,3,none⟩ = some (.string a0_3):=(blk_cell BK197.out 3).trans rfl
            have hcz36_4 : wc.cell? ⟨gb197,4,none⟩ = some (.int .i64 a0_4):=(blk_cell BK197.out 4).trans rfl
            have hcz36_5 : wc.cell? ⟨gb197,5,none⟩ = some (.slice A0_5 l0_5.length c0_5):=(blk_cell BK197.out 5).trans rfl
            have hcz36_6 : wc.cell? ⟨gb197,6,none⟩ = some (.slice A0_6 l0_6.length c0_6):=(blk_cell BK197.out 6).trans rfl
            have hfz36_0:=blk_frozen BK197.out 0
            have hfz36_1:=blk_frozen BK197.out 1
            have hfz36_2:=blk_frozen BK197.out 2
            have hfz36_3:=blk_frozen BK197.out 3
            have hfz36_4:=blk_frozen BK197.out 4
            have hfz36_5:=blk_frozen BK197.out 5
            have hfz36_6:=blk_frozen BK197.out 6
            go_wp2
            go_ret
            exact ⟨by first | rfl | (simp [errW_none,errW_some] <;> rfl) | (simp [*,errW_none,errW_some] <;> rfl),by repeat (first | (with_reducible first | exact HB.out | apply below_alloc | apply pw_below_drewN | apply below_drew1 | refine below_set ?_ GE197.out) | exact HB.out)⟩
          ·rw [if_neg c27] at H
           have c27b0 : decide (0 ≤ a0_4) = false:=decide_eq_false c27
           clear c27
           obtain rfl:=Option.some.inj H
           have hcz37_0 : wc.cell? ⟨gb197,0,none⟩ = some (.int .i64 a0_0):=(blk_cell BK197.out 0).trans rfl
           have hcz37_1 : wc.cell? ⟨gb197,1,none⟩ = some (.string a0_1):=(blk_cell BK197.out 1).trans rfl
           have hcz37_2 : wc.cell? ⟨gb197,2,none⟩ = some (.string a0_2):=(blk_cell BK197.out 2).trans rfl
           have hcz37_3 : wc.cell? ⟨gb197,3,none⟩ = some (.string a0_3):=(blk_cell BK197.out 3).trans rfl
           have hcz37_4 : wc.cell? ⟨gb197,4,none⟩ = some (.int .i64 a0_4):=(blk_cell BK197.out 4).trans rfl
           have hcz37_5 : wc.cell? ⟨gb197,5,none⟩ = some (.slice A0_5 l0_5.length c0_5):=(blk_cell BK197.out 5).trans rfl
           have hcz37_6 : wc.cell? ⟨gb197,6,none⟩ = some (.slice A0_6 l0_6.length c0_6):=(blk_cell BK197.out 6).trans rfl
           have hfz37_0:=blk_frozen BK197.out 0
           have hfz37_1:=blk_frozen BK197.out 1
           have hfz37_2:=blk_frozen BK197.out 2
           have hfz37_3:=blk_frozen BK197.out 3
           have hfz37_4:=blk_frozen BK197.out 4
           have hfz37_5:=blk_frozen BK197.out 5
           have hfz37_6:=blk_frozen BK197.out 6
           go_wp2
           go_ret
           exact ⟨by first | rfl | (simp [errW_none,errW_some] <;> rfl) | (simp [*,errW_none,errW_some] <;> rfl),by repeat (first | (with_reducible first | exact HB.out | apply below_alloc | apply pw_below_drewN | apply below_drew1 | refine below_set ?_ GE197.out) | exact HB.out)⟩
         ·rw [if_neg c26] at H
          have c26b0 : (a0_2.toList == ([] : List UInt8)) = false:=beq_eq_false_iff_ne.mpr c26
          have c26b1 : (a0_2.toList != ([] : List UInt8)) = true:=bne_iff_ne.mpr c26
          obtain rfl:=Option.some.inj H
          have hcz38_0 : wc.cell? ⟨gb197,0,none⟩ = some (.int .i64 a0_0):=(blk_cell BK197.out 0).trans rfl
          have hcz38_1 : wc.cell? ⟨gb197,1,none⟩ = some (.string a0_1):=(blk_cell BK197.out 1).trans rfl
          have hcz38_2 : wc.cell? ⟨gb197,2,none⟩ = some (.string a0_2):=(blk_cell BK197.out 2).trans rfl
          have hcz38_3 : wc.cell? ⟨gb197,3,none⟩ = some (.string a0_3):=(blk_cell BK197.out 3).trans rfl
          have hcz38_4 : wc.cell? ⟨gb197,4,none⟩ = some (.int .i64 a0_4):=(blk_cell BK197.out 4).trans rfl
          have hcz38_5 : wc.cell? ⟨gb197,5,none⟩ = some (.slice A0_5 l0_5.length c0_5):=(blk_cell BK197.out 5).trans rfl
          have hcz38_6 : wc.cell? ⟨gb197,6,none⟩ = some (.slice A0_6 l0_6.length c0_6):=(blk_cell BK197.out 6).trans rfl
          have hfz38_0:=blk_frozen BK197.out 0
          have hfz38_1:=blk_frozen BK197.out 1
          have hfz38_2:=blk_frozen BK197.out 2
          have hfz38_3:=blk_frozen BK197.out 3
          have hfz38_4:=blk_frozen BK197.out 4
          have hfz38_5:=blk_frozen BK197.out 5
          have hfz38_6:=blk_frozen BK197.out 6
          go_wp2
          go_ret
          exact ⟨by first | rfl | (simp [errW_none,errW_some] <;> rfl) | (simp [*,errW_none,errW_some] <;> rfl),by repeat (first | (with_reducible first | exact HB.out | apply below_alloc | apply pw_below_drewN | apply below_drew1 | refine below_set ?_ GE197.out) | exact HB.out)⟩
        ·rw [if_neg c25] at H
         have c25b0 : (a0_3.toList == ([] : List UInt8)) = false:=beq_eq_false_iff_ne.mpr c25
         have c25b1 : (a0_3.toList != ([] : List UInt8)) = true:=bne_iff_ne.mpr c25
         obtain rfl:=Option.some.inj H
         have hcz39_0 : wc.cell? ⟨gb197,0,none⟩ = some (.int .i64 a0_0):=(blk_cell BK197.out 0).trans rfl
         have hcz39_1 : wc.cell? ⟨gb197,1,none⟩ = some (.string a0_1):=(blk_cell BK197.out 1).trans rfl
         have hcz39_2 : wc.cell? ⟨gb197,2,none⟩ = some (.string a0_2):=(blk_cell BK197.out 2).trans rfl
         have hcz39_3 : wc.cell? ⟨gb197,3,none⟩ = some (.string a0_3):=(blk_cell BK197.out 3).trans rfl
         have hcz39_4 : wc.cell? ⟨gb197,4,none⟩ = some (.int .i64 a0_4):=(blk_cell BK197.out 4).trans rfl
         have hcz39_5 : wc.cell? ⟨gb197,5,none⟩ = some (.slice A0_5 l0_5.length c0_5):=(blk_cell BK197.out 5).trans rfl
         have hcz39_6 : wc.cell? ⟨gb197,6,none⟩ = some (.slice A0_6 l0_6.length c0_6):=(blk_cell BK197.out 6).trans rfl
         have hfz39_0:=blk_frozen BK197.out 0
         have hfz39_1:=blk_frozen BK197.out 1
         have hfz39_2:=blk_frozen BK197.out 2
         have hfz39_3:=blk_frozen BK197.out 3
         have hfz39_4:=blk_frozen BK197.out 4
         have hfz39_5:=blk_frozen BK197.out 5
         have hfz39_6:=blk_frozen BK197.out 6
         go_wp2
         go_ret
         exact ⟨by first | rfl | (simp [errW_none,errW_some] <;> rfl) | (simp [*,errW_none,errW_some] <;> rfl),by repeat (first | (with_reducible first | exact HB.out | apply below_alloc | apply pw_below_drewN | apply below_drew1 | refine below_set ?_ GE197.out) | exact HB.out)⟩
       ·rw [if_neg c24] at H
        have c24b0 : (a0_0 == 7) = false:=beq_eq_false_iff_ne.mpr c24
        have c24b1 : (a0_0 != 7) = true:=bne_iff_ne.mpr c24
        by_cases c40 : a0_0 = 8
        ·rw [if_pos c40] at H
         have c40b0 : (a0_0 == 8) = true:=beq_iff_eq.mpr c40
         have c40b1 : (a0_0 != 8) = false:=bne_eq_false_iff_eq.mpr c40
         clear c40
         by_cases c41 : x3_3 = true
         ·subst c41
          have H1 : ((counterpaneref05_Token.f kj11 a0_3).bind fun t201 => (if t201 = true then ((counterpaneref05_Token.f kj11 a0_2).bind fun t202 => (if t202 = true then (some (a0_3.toList != a0_2.toList)) else (some false))) else (some false))) = some r:=by rw [if_pos rfl] at H; exact H
          clear H
          have H:=H1
          clear H1
          replace H:=Option.bind_eq_some_iff.mp H
          obtain ⟨t201,A420,H⟩:=H
          replace H : (if t201 = true then ((counterpaneref05_Token.f kj11 a0_2).bind fun t202 => (if t202 = true then (some (a0_3.toList != a0_2.toList)) else (some false))) else (some false)) = some r:=H
          have A42:=Aside0.mk A420
          clear A420
          by_cases c43 : t201 = true
          ·subst c43
           have H1 : ((counterpaneref05_Token.f kj11 a0_2).bind fun t202 => (if t202 = true then (some (a0_3.toList != a0_2.toList)) else (some false))) = some r:=by rw [if_pos rfl] at H; exact H
           clear H
           have H:=H1
           clear H1
           replace H:=Option.bind_eq_some_iff.mp H
           obtain ⟨t202,A440,H⟩:=H
           replace H : (if t202 = true then (some (a0_3.toList != a0_2.toList)) else (some false)) = some r:=H
           have A44:=Aside0.mk A440
           clear A440
           by_cases c45 : t202 = true
           ·subst c45
            have H1 : (some (a0_3.toList != a0_2.toList)) = some r:=by rw [if_pos rfl] at H; exact H
            clear H
            have H:=H1
            clear H1
            obtain rfl:=Option.some.inj H
            have hcz46_0 : wc.cell? ⟨gb197,0,none⟩ = some (.int .i64 a0_0):=(blk_cell BK197.out 0).trans rfl
            have hcz46_1 : wc.cell? ⟨gb197,1,none⟩ = some (.string a0_1):=(blk_cell BK197.out 1).trans rfl
            have hcz46_2 : wc.cell? ⟨gb197,2,none⟩ = some (.string a0_2):=(blk_cell BK197.out 2).trans rfl
            have hcz46_3 : wc.cell? ⟨gb197,3,none⟩ = some (.string a0_3):=(blk_cell BK197.out 3).trans rfl
            have hcz46_4 : wc.cell? ⟨gb197,4,none⟩ = some (.int .i64 a0_4):=(blk_cell BK197.out 4).trans rfl
            have hcz46_5 : wc.cell? ⟨gb197,5,none⟩ = some (.slice A0_5 l0_5.length c0_5):=(blk_cell BK197.out 5).trans rfl
            have hcz46_6 : wc.cell? ⟨gb197,6,none⟩ = some (.slice A0_6 l0_6.length c0_6):=(blk_cell BK197.out 6).trans rfl
            have hfz46_0:=blk_frozen BK197.out 0
            have hfz46_1:=blk_frozen BK197.out 1
            have hfz46_2:=blk_frozen BK197.out 2
            have hfz46_3:=blk_frozen BK197.out 3
            have hfz46_4:=blk_frozen BK197.out 4
            have hfz46_5:=blk_frozen BK197.out 5
            have hfz46_6:=blk_frozen BK197.out 6
            go_wp2_with (first | (go_at_call 71; (with_reducible refine (counterpaneref05_Token.calls kj11 a0_3 true _ A42.out).mono ?_); rintro e w' ⟨rfl,⟨nd,rfl⟩⟩) | (go_at_call 71; (with_reducible refine (counterpaneref05_Token.calls kj11 a0_2 true _ A44.out).mono ?_); rintro e w' ⟨rfl,⟨nd,rfl⟩⟩))
            go_ret
            exact ⟨by first | rfl | (simp [errW_none,errW_some] <;> rfl) | (simp [*,errW_none,errW_some] <;> rfl),by repeat (first | (with_reducible first | exact HB.out | apply below_alloc | apply pw_below_drewN | apply below_drew1 | refine below_set ?_ GE197.out) | exact HB.out)⟩
           ·replace c45:=Bool.eq_false_iff.mpr c45
            subst c45
            have H1 : (some false) = some r:=by rw [if_neg (show ¬ (false = true) by decide)] at H; exact H
            clear H
            have H:=H1
            clear H1
            obtain rfl:=Option.some.inj H
            have hcz47_0 : wc.cell? ⟨gb197,0,none⟩ = some (.int .i64 a0_0):=(blk_cell BK197.out 0).trans rfl
            have hcz47_1 : wc.cell? ⟨gb197,1,none⟩ = some (.string a0_1):=(blk_cell BK197.out 1).trans rfl
            have hcz47_2 : wc.cell? ⟨gb197,2,none⟩ = some (.string a0_2):=(blk_cell BK197.out 2).trans rfl
            have hcz47_3 : wc.cell? ⟨gb197,3,none⟩ = some (.string a0_3):=(blk_cell BK197.out 3).trans rfl
            have hcz47_4 : wc.cell? ⟨gb197,4,none⟩ = some (.int .i64 a0_4):=(blk_cell BK197.out 4).trans rfl
            have hcz47_5 : wc.cell? ⟨gb197,5,none⟩ = some (.slice A0_5 l0_5.length c0_5):=(blk_cell BK197.out 5).trans rfl
            have hcz47_6 : wc.cell? ⟨gb197,6,none⟩ = some (.slice A0_6 l0_6.length c0_6):=(blk_cell BK197.out 6).trans rfl
            have hfz47_0:=blk_frozen BK197.out 0
            have hfz47_1:=blk_frozen BK197.out 1
            have hfz47_2:=blk_frozen BK197.out 2
            have hfz47_3:=blk_frozen BK197.out 3
            have hfz47_4:=blk_frozen BK197.out 4
            have hfz47_5:=blk_frozen BK197.out 5
            have hfz47_6:=blk_frozen BK197.out 6
            go_wp2_with (first | (go_at_call 71; (with_reducible refine (counterpaneref05_Token.calls kj11 a0_3 true _ A42.out).mono ?_); rintro e w' ⟨rfl,⟨nd,rfl⟩⟩) | (go_at_call 71; (with_reducible refine (counterpaneref05_Token.calls kj11 a0_2 false _ A44.out).mono ?_); rintro e w' ⟨rfl,⟨nd,rfl⟩⟩))
            go_ret
            exact ⟨by first | rfl | (simp [errW_none,errW_some] <;> rfl) | (simp [*,errW_none,errW_some] <;> rfl),by repeat (first | (with_reducible first | exact HB.out | apply below_alloc | apply pw_below_drewN | apply below_drew1 | refine below_set ?_ GE197.out) | exact HB.out)⟩
          ·replace c43:=Bool.eq_false_iff.mpr c43
           subst c43
           have H1 : (some false) = some r:=by rw [if_neg (show ¬ (false = true) by decide)] at H; exact H
           clear H
           have H:=H1
           clear H1
           obtain rfl:=Option.some.inj H
           have hcz48_0 : wc.cell? ⟨gb197,0,none⟩ = some (.int .i64 a0_0):=(blk_cell BK197.out 0).trans rfl
           have hcz48_1 : wc.cell? ⟨gb197,1,none⟩ = some (.string a0_1):=(blk_cell BK197.out 1).trans rfl
           have hcz48_2 : wc.cell? ⟨gb197,2,none⟩ = some (.string a0_2):=(blk_cell BK197.out 2).trans rfl
           have hcz48_3 : wc.cell? ⟨gb197,3,none⟩ = some (.string a0_3):=(blk_cell BK197.out 3).trans rfl
           have hcz48_4 : wc.cell? ⟨gb197,4,none⟩ = some (.int .i64 a0_4):=(blk_cell BK197.out 4).trans rfl
           have hcz48_5 : wc.cell? ⟨gb197,5,none⟩ = some (.slice A0_5 l0_5.length c0_5):=(blk_cell BK197.out 5).trans rfl
           have hcz48_6 : wc.cell? ⟨gb197,6,none⟩ = some (.slice A0_6 l0_6.length c0_6):=(blk_cell BK197.out 6).trans rfl
           have hfz48_0:=blk_frozen BK197.out 0
           have hfz48_1:=blk_frozen BK197.out 1
           have hfz48_2:=blk_frozen BK197.out 2
           have hfz48_3:=blk_frozen BK197.out 3
           have hfz48_4:=blk_frozen BK197.out 4
           have hfz48_5:=blk_frozen BK197.out 5
           have hfz48_6:=blk_frozen BK197.out 6
           go_wp2_with (first | (go_at_call 71; (with_reducible refine (counterpaneref05_Token.calls kj11 a0_3 false _ A42.out).mono ?_); rintro e w' ⟨rfl,⟨nd,rfl⟩⟩))
           go_ret
           exact ⟨by first | rfl | (simp [errW_none,errW_some] <;> rfl) | (simp [*,errW_none,errW_some] <;> rfl),by repeat (first | (with_reducible first | exact HB.out | apply below_alloc | apply pw_below_drewN | apply below_drew1 | refine below_set ?_ GE197.out) | exact HB.out)⟩
         ·replace c41:=Bool.eq_false_iff.mpr c41
          subst c41
          have H1 : (some false) = some r:=by rw [if_neg (show ¬ (false = true) by decide)] at H; exact H
          clear H
          have H:=H1
          clear H1
          obtain rfl:=Option.some.inj H
          go_wp2
          go_ret
          exact ⟨by first | rfl | (simp [errW_none,errW_some] <;> rfl) | (simp [*,errW_none,errW_some] <;> rfl),by repeat (first | (with_reducible first | exact HB.out | apply below_alloc | apply pw_below_drewN | apply below_drew1 | refine below_set ?_ GE197.out) | exact HB.out)⟩
        ·rw [if_neg c40] at H
         have c40b0 : (a0_0 == 8) = false:=beq_eq_false_iff_ne.mpr c40
         have c40b1 : (a0_0 != 8) = true:=bne_iff_ne.mpr c40
         by_cases c49 : a0_0 = 9
         ·rw [if_pos c49] at H
          have c49b0 : (a0_0 == 9) = true:=beq_iff_eq.mpr c49
          have c49b1 : (a0_0 != 9) = false:=bne_eq_false_iff_eq.mpr c49
          clear c49
          by_cases c50 : x3_3 = true
          ·subst c50
           have H1 : (some (a0_3.toList != a0_2.toList)) = some r:=by rw [if_pos rfl] at H; exact H
           clear H
           have H:=H1
           clear H1
           obtain rfl:=Option.some.inj H
           have hcz51_0 : wc.cell? ⟨gb197,0,none⟩ = some (.int .i64 a0_0):=(blk_cell BK197.out 0).trans rfl
           have hcz51_1 : wc.cell? ⟨gb197,1,none⟩ = some (.string a0_1):=(blk_cell BK197.out 1).trans rfl
           have hcz51_2 : wc.cell? ⟨gb197,2,none⟩ = some (.string a0_2):=(blk_cell BK197.out 2).trans rfl
           have hcz51_3 : wc.cell? ⟨gb197,3,none⟩ = some (.string a0_3):=(blk_cell BK197.out 3).trans rfl
           have hcz51_4 : wc.cell? ⟨gb197,4,none⟩ = some (.int .i64 a0_4):=(blk_cell BK197.out 4).trans rfl
           have hcz51_5 : wc.cell? ⟨gb197,5,none⟩ = some (.slice A0_5 l0_5.length c0_5):=(blk_cell BK197.out 5).trans rfl
           have hcz51_6 : wc.cell? ⟨gb197,6,none⟩ = some (.slice A0_6 l0_6.length c0_6):=(blk_cell BK197.out 6).trans rfl
           have hfz51_0:=blk_frozen BK197.out 0
           have hfz51_1:=blk_frozen BK197.out 1
           have hfz51_2:=blk_frozen BK197.out 2
           have hfz51_3:=blk_frozen BK197.out 3
           have hfz51_4:=blk_frozen BK197.out 4
           have hfz51_5:=blk_frozen BK197.out 5
           have hfz51_6:=blk_frozen BK197.out 6
           go_wp2
           go_ret
           exact ⟨by first | rfl | (simp [errW_none,errW_some] <;> rfl) | (simp [*,errW_none,errW_some] <;> rfl),by repeat (first | (with_reducible first | exact HB.out | apply below_alloc | apply pw_below_drewN | apply below_drew1 | refine below_set ?_ GE197.out) | exact HB.out)⟩
          ·replace c50:=Bool.eq_false_iff.mpr c50
           subst c50
           have H1 : (some false) = some r:=by rw [if_neg (show ¬ (false = true) by decide)] at H; exact H
           clear H
           have H:=H1
           clear H1
           obtain rfl:=Option.some.inj H
           go_wp2
           go_ret
           exact ⟨by first | rfl | (simp [errW_none,errW_some] <;> rfl) | (simp [*,errW_none,errW_some] <;> rfl),by repeat (first | (with_reducible first | exact HB.out | apply below_alloc | apply pw_below_drewN | apply below_drew1 | refine below_set ?_ GE197.out) | exact HB.out)⟩
         ·rw [if_neg c49] at H
          have c49b0 : (a0_0 == 9) = false:=beq_eq_false_iff_ne.mpr c49
          have c49b1 : (a0_0 != 9) = true:=bne_iff_ne.mpr c49
          by_cases c52 : a0_0 = 10
          ·rw [if_pos c52] at H
           have c52b0 : (a0_0 == 10) = true:=beq_iff_eq.mpr c52
           have c52b1 : (a0_0 != 10) = false:=bne_eq_false_iff_eq.mpr c52
           clear c52
           by_cases c53 : x3_3 = true
           ·subst c53
            have H1 : (if a0_3.toList = ([] : List UInt8) then ((counterpaneref04_Right.f kj11 a0_2).bind fun t203 => (if t203 = true then ((counterpaneref04_Apart.f a0_1 a0_2).bind fun t204 => (some t204)) else (some false))) else (some false)) = some r:=by rw [if_pos rfl] at H; exact H
            clear H
            have H:=H1
            clear H1
            by_cases c54 : a0_3.toList = ([] : List UInt8)
            ·rw [if_pos c54] at H
             have c54b0 : (a0_3.toList == ([] : List UInt8)) = true:=beq_iff_eq.mpr c54
             have c54b1 : (a0_3.toList != ([] : List UInt8)) = false:=bne_eq_false_iff_eq.mpr c54
             clear c54
             replace H:=Option.bind_eq_some_iff.mp H
             obtain ⟨t203,A550,H⟩:=H
             replace H : (if t203 = true then ((counterpaneref04_Apart.f a0_1 a0_2).bind fun t204 => (some t204)) else (some false)) = some r:=H
             have A55:=Aside0.mk A550
             clear A550
             by_cases c56 : t203 = true
             ·subst c56
              have H1 : ((counterpaneref04_Apart.f a0_1 a0_2).bind fun t204 => (some t204)) = some r:=by rw [if_pos rfl] at H; exact H
              clear H
              have H:=H1
              clear H1
              replace H:=Option.bind_eq_some_iff.mp H
              obtain ⟨t204,A570,H⟩:=H
              replace H : (some t204) = some r:=H
              have A57:=Aside0.mk A570
              clear A570
              obtain rfl:=Option.some.inj H
              have hcz58_0 : wc.cell? ⟨gb197,0,none⟩ = some (.int .i64 a0_0):=(blk_cell BK197.out 0).trans rfl
              have hcz58_1 : wc.cell? ⟨gb197,1,none⟩ = some (.string a0_1):=(blk_cell BK197.out 1).trans rfl
              have hcz58_2 : wc.cell? ⟨gb197,2,none⟩ = some (.string a0_2):=(blk_cell BK197.out 2).trans rfl
              have hcz58_3 : wc.cell? ⟨gb197,3,none⟩ = some (.string a0_3):=(blk_cell BK197.out 3).trans rfl
              have hcz58_4 : wc.cell? ⟨gb197,4,none⟩ = some (.int .i64 a0_4):=(blk_cell BK197.out 4).trans rfl
              have hcz58_5 : wc.cell? ⟨gb197,5,none⟩ = some (.slice A0_5 l0_5.length c0_5):=(blk_cell BK197.out 5).trans rfl
              have hcz58_6 : wc.cell? ⟨gb197,6,none⟩ = some (.slice A0_6 l0_6.length c0_6):=(blk_cell BK197.out 6).trans rfl
              have hfz58_0:=blk_frozen BK197.out 0
              have hfz58_1:=blk_frozen BK197.out 1
              have hfz58_2:=blk_frozen BK197.out 2
              have hfz58_3:=blk_frozen BK197.out 3
              have hfz58_4:=blk_frozen BK197.out 4
              have hfz58_5:=blk_frozen BK197.out 5
              have hfz58_6:=blk_frozen BK197.out 6
              go_wp2_with (first | (go_at_call 36; (with_reducible refine (counterpaneref04_Right.calls kj11 a0_2 true _ A55.out).mono ?_); rintro e w' ⟨rfl,⟨nd,rfl⟩⟩) | (go_at_call 32; (with_reducible refine (counterpaneref04_Apart.calls a0_1 a0_2 t204 _ A57.out).mono ?_); rintro e w' ⟨rfl,⟨nd,rfl⟩⟩))
              go_ret
              exact ⟨by first | rfl | (simp [errW_none,errW_some] <;> rfl) | (simp [*,errW_none,errW_some] <;> rfl),by repeat (first | (with_reducible first | exact HB.out | apply below_alloc | apply pw_below_drewN | apply below_drew1 | refine below_set ?_ GE197.out) | exact HB.out)⟩
             ·replace c56:=Bool.eq_false_iff.mpr c56
              subst c56
              have H1 : (some false) = some r:=by rw [if_neg (show ¬ (false = true) by decide)] at H; exact H
              clear H
              have H:=H1
              clear H1
              obtain rfl:=Option.some.inj H
              have hcz59_0 : wc.cell? ⟨gb197,0,none⟩ = some (.int .i64 a0_0):=(blk_cell BK197.out 0).trans rfl
              have hcz59_1 : wc.cell? ⟨gb197,1,none⟩ = some (.string a0_1):=(blk_cell BK197.out 1).trans rfl
              have hcz59_2 : wc.cell? ⟨gb197,2,none⟩ = some (.string a0_2):=(blk_cell BK197.out 2).trans rfl
              have hcz59_3 : wc.cell? ⟨gb197,3,none⟩ = some (.string a0_3):=(blk_cell BK197.out 3).trans rfl
              have hcz59_4 : wc.cell? ⟨gb197,4,none⟩ = some (.int .i64 a0_4):=(blk_cell BK197.out 4).trans rfl
              have hcz59_5 : wc.cell? ⟨gb197,5,none⟩ = some (.slice A0_5 l0_5.length c0_5):=(blk_cell BK197.out 5).trans rfl
              have hcz59_6 : wc.cell? ⟨gb197,6,none⟩ = some (.slice A0_6 l0_6.length c0_6):=(blk_cell BK197.out 6).trans rfl
              have hfz59_0:=blk_frozen BK197.out 0
              have hfz59_1:=blk_frozen BK197.out 1
              have hfz59_2:=blk_frozen BK197.out 2
              have hfz59_3:=blk_frozen BK197.out 3
              have hfz59_4:=blk_frozen BK197.out 4
              have hfz59_5:=blk_frozen BK197.out 5
              have hfz59_6:=blk_frozen BK197.out 6
              go_wp2_with (first | (go_at_call 36; (with_reducible refine (counterpaneref04_Right.calls kj11 a0_2 false _ A55.out).mono ?_); rintro e w' ⟨rfl,⟨nd,rfl⟩⟩))
              go_ret
              exact ⟨by first | rfl | (simp [errW_none,errW_some] <;> rfl) | (simp [*,errW_none,errW_some] <;> rfl),by repeat (first | (with_reducible first | exact HB.out | apply below_alloc | apply pw_below_drewN | apply below_drew1 | refine below_set ?_ GE197.out) | exact HB.out)⟩
            ·rw [if_neg c54] at H
             have c54b0 : (a0_3.toList == ([] : List UInt8)) = false:=beq_eq_false_iff_ne.mpr c54
             have c54b1 : (a0_3.toList != ([] : List UInt8)) = true:=bne_iff_ne.mpr c54
             obtain rfl:=Option.some.inj H
             have hcz60_0 : wc.cell? ⟨gb197,0,none⟩ = some (.int .i64 a0_0):=(blk_cell BK197.out 0).trans rfl
             have hcz60_1 : wc.cell? ⟨gb197,1,none⟩ = some (.string a0_1):=(blk_cell BK197.out 1).trans rfl
             have hcz60_2 : wc.cell? ⟨gb197,2,none⟩ = some (.string a0_2):=(blk_cell BK197.out 2).trans rfl
             have hcz60_3 : wc.cell? ⟨gb197,3,none⟩ = some (.string a0_3):=(blk_cell BK197.out 3).trans rfl
             have hcz60_4 : wc.cell? ⟨gb197,4,none⟩ = some (.int .i64 a0_4):=(blk_cell BK197.out 4).trans rfl
             have hcz60_5 : wc.cell? ⟨gb197,5,none⟩ = some (.slice A0_5 l0_5.length c0_5):=(blk_cell BK197.out 5).trans rfl
             have hcz60_6 : wc.cell? ⟨gb197,6,none⟩ = some (.slice A0_6 l0_6.length c0_6):=(blk_cell BK197.out 6).trans rfl
             have hfz60_0:=blk_frozen BK197.out 0
             have hfz60_1:=blk_frozen BK197.out 1
             have hfz60_2:=blk_frozen BK197.out 2
             have hfz60_3:=blk_frozen BK197.out 3
             have hfz60_4:=blk_frozen BK197.out 4
             have hfz60_5:=blk_frozen BK197.out 5
             have hfz60_6:=blk_frozen BK197.out 6
             go_wp2
             go_ret
             exact ⟨by first | rfl | (simp [errW_none,errW_some] <;> rfl) | (simp [*,errW_none,errW_some] <;> rfl),by repeat (first | (with_reducible first | exact HB.out | apply below_alloc | apply pw_below_drewN | apply below_drew1 | refine below_set ?_ GE197.out) | exact HB.out)⟩
           ·replace c53:=Bool.eq_false_iff.mpr c53
            subst c53
            have H1 : (some false) = some r:=by rw [if_neg (show ¬ (false = true) by decide)] at H; exact H
            clear H
            have H:=H1
            clear H1
            obtain rfl:=Option.some.inj H
            go_wp2
            go_ret
            exact ⟨by first | rfl | (simp [errW_none,errW_some] <;> rfl) | (simp [*,errW_none,errW_some] <;> rfl),by repeat (first | (with_reducible first | exact HB.out | apply below_alloc | apply pw_below_drewN | apply below_drew1 | refine below_set ?_ GE197.out) | exact HB.out)⟩
          ·rw [if_neg c52] at H
           have c52b0 : (a0_0 == 10) = false:=beq_eq_false_iff_ne.mpr c52
           have c52b1 : (a0_0 != 10) = true:=bne_iff_ne.mpr c52
           obtain rfl:=Option.some.inj H
           go_wp2
           go_ret
           exact ⟨by first | rfl | (simp [errW_none,errW_some] <;> rfl) | (simp [*,errW_none,errW_some] <;> rfl),by repeat (first | (with_reducible first | exact HB.out | apply below_alloc | apply pw_below_drewN | apply below_drew1 | refine below_set ?_ GE197.out) | exact HB.out)⟩
 ·replace c3:=Bool.eq_false_iff.mpr c3
  subst c3
  have H1 : (some false) = some r:=by rw [if_neg (show ¬ (false = true) by decide)] at H; exact H
  clear H
  have H:=H1
  clear H1
  obtain rfl:=Option.some.inj H
  go_enter Tryz.func26,Tryz.ntmps26
  go_wp2_with (first | ((with_reducible refine gate_dst (N:=1) rfl ?_); (try (refine gate_guard (by rfl) ?_; dsimp only)); refine box_event ?hg (N:=1) ?hd (cs:=#[.int .i64 a0_0,.string a0_1,.string a0_2,.string a0_3,.int .i64 a0_4,.slice A0_5 l0_5.length c0_5,.slice A0_6 l0_6.length c0_6]) (t:=25) ?hr ?_; (case hd => rfl); (case hg => rfl); (case hr => first | (go_simp; done) | (go_simp; rfl)); intro gb197 hg w61 hbox hb; have n0_:=Aside0.mk (below_step (by repeat (first | (with_reducible first | exact HB.out | apply below_alloc | apply pw_below_drewN | apply below_drew1) | exact HB.out)) hb); have n1_:=Aside0.mk (hbox); have n2_:=Aside0.mk ((by rw [hg]; exact (below_size (by repeat (first | (with_reducible first | exact HB.out | apply below_alloc | apply pw_below_drewN | apply below_drew1) | exact HB.out))) : w.heap.size ≤ gb197)); have n3_:=Aside0.mk ((by rw [hg]; exact (below_size (by repeat (first | (with_reducible first | exact HB.out | apply below_alloc | apply pw_below_drewN | apply below_drew1) | exact HB.out))) : w.heap.size ≤ gb197)); clear HB; have HB:=n0_; have BK197:=n1_; have GW197:=n2_; have GE197:=n3_; clear n0_ n1_ n2_ n3_; clear hb hbox hg; have hcz62_0 : w61.cell? ⟨gb197,0,none⟩ = some (.int .i64 a0_0):=(blk_cell BK197.out 0).trans rfl; have hcz62_1 : w61.cell? ⟨gb197,1,none⟩ = some (.string a0_1):=(blk_cell BK197.out 1).trans rfl; have hcz62_2 : w61.cell? ⟨gb197,2,none⟩ = some (.string a0_2):=(blk_cell BK197.out 2).trans rfl; have hcz62_3 : w61.cell? ⟨gb197,3,none⟩ = some (.string a0_3):=(blk_cell BK197.out 3).trans rfl; have hcz62_4 : w61.cell? ⟨gb197,4,none⟩ = some (.int .i64 a0_4):=(blk_cell BK197.out 4).trans rfl; have hcz62_5 : w61.cell? ⟨gb197,5,none⟩ = some (.slice A0_5 l0_5.length c0_5):=(blk_cell BK197.out 5).trans rfl; have hcz62_6 : w61.cell? ⟨gb197,6,none⟩ = some (.slice A0_6 l0_6.length c0_6):=(blk_cell BK197.out 6).trans rfl; have hfz62_0:=blk_frozen BK197.out 0; have hfz62_1:=blk_frozen BK197.out 1; have hfz62_2:=blk_frozen BK197.out 2; have hfz62_3:=blk_frozen BK197.out 3; have hfz62_4:=blk_frozen BK197.out 4; have hfz62_5:=blk_frozen BK197.out 5; have hfz62_6:=blk_frozen BK197.out 6) | ((with_reducible refine gate_callee (f:=36) rfl ?_); refine goesL_ (some 6) rfl rfl Tryz.func36 (by kernel_rfl) rfl #[.string a0_1] rfl (by (try simp only [List.map_toArray,List.map_cons,List.map_nil]); first | done | rfl | (simp only [List.length_drop,List.length_take]; rfl)) ?_; (with_reducible refine (counterpaneref04_Right.calls k a0_1 false _ A2.out).mono ?_); rintro e w' ⟨rfl,⟨nd,rfl⟩⟩; refine ⟨_,rfl,?_⟩))
  go_ret
  exact ⟨by first | rfl | (simp [errW_none,errW_some] <;> rfl) | (simp [*,errW_none,errW_some] <;> rfl),by repeat (first | (with_reducible first | exact HB.out | apply below_alloc | apply pw_below_drewN | apply below_drew1 | refine below_set ?_ GE197.out) | exact HB.out)⟩

end Go.Proofs.YthhohbidjhcjeaaGreatDoor.Q
namespace Go.Proofs.YthhohbidjhcjeaaGreatDoor.Pl
open Go.RowKit Go.Proofs.YthhohbidjhcjeaaGreatDoorW.PrintWords Go.Proofs.YthhohbidjhcjeaaGreatDoorW.PrintMore Go.Proofs.YthhohbidjhcjeaaGreatDoor.Q Go.Proofs.YthhohbidjhcjeaaGreatDoor.H
theorem refWithin_f (a b : ByteArray) : counterpaneref04_Within.f a b = some (withinB a b):=by
 unfold counterpaneref04_Within.f withinB
 by_cases he : a.toList = b.toList
 ·obtain rfl:=toList_inj he
  have e1 : (a.extract 0 a.size) = a:=by simp
  have e2 : (a.extract a.size a.size).toList = []:=by rw [toList_data,extract_data]; simp
  rw [if_pos rfl,if_pos ⟨by rw [e1],Nat.le_refl _⟩,if_pos e2]
 ·rw [if_neg he]
  by_cases hs : b.size < a.size
  ·rw [if_pos (by omega),if_pos (by omega),if_pos (by omega),Int.toNat_natCast]
   by_cases hp : (a.extract 0 b.size).toList = b.toList
   ·have hr : (a.extract b.size a.size).size = a.size - b.size:=by simp
    have hn : ¬ (a.extract b.size a.size).toList = []:=fun e => by
     have:=size_toList (a.extract b.size a.size)
     rw [e] at this
     simp at this
     omega
    rw [if_pos hp,if_pos (by omega),if_pos ⟨hp,by omega⟩,if_neg hn]
    have hb : bt (a.extract b.size a.size) 0 = bt a (b.size : Int):=by
     have h0:=bt_get (a.extract b.size a.size) 0 (by omega)
     rw [show ((0 : Nat) : Int) = 0 from rfl] at h0
     rw [h0,bt_get a b.size hs]
     congr 2
     rw [← Option.some_inj,← List.getElem?_eq_getElem,← List.getElem?_eq_getElem,extract_data,List.getElem?_drop,List.getElem?_take]
     simp [hs]
    rw [hb]
   ·rw [if_neg hp,if_neg (fun h => hp h.1)]
  ·rw [if_neg (by omega),if_neg ?_]
   rintro ⟨h1,h2⟩
   have : b.size = a.size:=by omega
   rw [this] at h1
   simp at h1
   exact he h1
theorem refApart_f (a b : ByteArray) : counterpaneref04_Apart.f a b = some (apartB a b):=by
 unfold counterpaneref04_Apart.f apartB
 rw [refWithin_f,refWithin_f]
 cases withinB a b <;> rfl

def letB (c : Nat) : Bool:=c == 46 || c == 95 || c == 45 || (decide (97 ≤ c) && decide (c ≤ 122)) || (decide (48 ≤ c) && decide (c ≤ 57))
theorem letB_eq : ∀ c,c < 128 → isLetter c = letB c:=by decide +kernel
theorem letB_high (c : Nat) (h : 128 ≤ c) : letB c = false:=by simp [letB]; omega
theorem strange_from (s : ByteArray) : ∀ (f pos : Nat),s.size ≤ pos + f → (0 ≤ Lib.idxFuncFrom (fun r => !isLetter r) true s f pos ↔ ∃ b ∈ s.data.toList.drop pos,letB b.toNat = false)
 | 0,pos,h => by
  rw [List.drop_eq_nil_of_le (by rw [dlen]; omega)]
  simp [Lib.idxFuncFrom]
 | f + 1,pos,h => by
  by_cases hp : pos < s.size
  ·have h1 : pos < s.data.toList.length:=by rw [dlen]; exact hp
   rw [List.drop_eq_getElem_cons h1]
   have hg : (s[pos]'hp) = s.data.toList[pos]:=rfl
   by_cases ha : (s.data.toList[pos]).toNat < 128
   ·have hd:=decode_ascii s pos hp (by rw [hg]; exact ha)
    rw [hg] at hd
    simp only [Lib.idxFuncFrom,if_pos hp,hd,letB_eq _ ha]
    cases hl : letB (s.data.toList[pos]).toNat with
    | true =>
     simp only [Bool.not_true,Bool.false_eq_true,if_false]
     rw [strange_from s f (pos + 1) (by omega)]
     exact ⟨fun ⟨b,hb,h⟩ => ⟨b,List.mem_cons_of_mem _ hb,h⟩,fun ⟨b,hb,h⟩ => by
      rcases List.mem_cons.1 hb with rfl | hb
      ·rw [hl] at h
       cases h
      ·exact ⟨b,hb,h⟩⟩
    | false =>
     simp only [Bool.not_false,if_true]
     exact ⟨fun _ => ⟨_,List.mem_cons_self,hl⟩,fun _ => by omega⟩
   ·obtain ⟨h2,_⟩:=decode_high s pos hp (by rw [hg]; omega)
    have hl : isLetter (Utf8.decode s pos).1 = false:=by
     have : ¬ (Utf8.decode s pos).1 < 128:=by omega
     simp [isLetter,this]
    simp only [Lib.idxFuncFrom,if_pos hp,hl,Bool.not_false,if_true]
    exact ⟨fun _ => ⟨_,List.mem_cons_self,letB_high _ (Nat.le_of_not_lt ha)⟩,fun _ => by omega⟩
  ·rw [Lib.idxFuncFrom_end _ _ _ _ _ hp,List.drop_eq_nil_of_le (by rw [dlen]; omega)]
   simp
theorem strange_eq (s : ByteArray) : strangeB s = !(s.data.toList.all (fun b => letB b.toNat)):=by
 have h:=strange_from s s.size 0 (by omega)
 rw [List.drop_zero] at h
 rw [strangeB,Lib.idxFunc]
 cases ha : s.data.toList.all (fun b => letB b.toNat) with
 | true =>
  rw [List.all_eq_true] at ha
  refine decide_eq_false (fun hh => ?_)
  obtain ⟨b,hb,hl⟩:=h.1 hh
  rw [ha b hb] at hl
  cases hl
 | false =>
  obtain ⟨b,hb,hl⟩:=List.all_eq_false.1 ha
  exact decide_eq_true (h.2 ⟨b,hb,by simpa using hl⟩)
theorem refPart_l (s : ByteArray) (hn : s.size ≤ 140737488355328) : ∀ (d i : Nat),i + d = s.size → Ev (fun k => counterpaneref04_part.l0 k s (i : Int)) ((s.data.toList.drop i).all (fun b => letB b.toNat)):=by
 intro d
 induction d with
 | zero =>
  intro i hi
  rw [List.drop_eq_nil_of_le (by rw [dlen]; omega)]
  refine Ev.step (f:=fun _ => some true) (fun k => ?_) (Ev.now _)
  simp only [counterpaneref04_part.l0]
  rw [if_neg (by omega)]
 | succ d ih =>
  intro i hi
  have h2 : i < s.size:=by omega
  have h1 : i < s.data.toList.length:=by rw [dlen]; exact h2
  rw [List.drop_eq_getElem_cons h1,List.all_cons]
  obtain ⟨c,hc⟩ : ∃ c,(s.data.toList[i]).toNat = c:=⟨_,rfl⟩
  have hb : bt s (i : Int) = (c : Int):=by rw [bt_get s i h2,hc]
  have key:=ih (i + 1) (by omega)
  rw [hc]
  cases hl : letB c with
  | true =>
   rw [Bool.true_and]
   refine Ev.step (f:=fun k => counterpaneref04_part.l0 k s ((i + 1 : Nat) : Int)) (fun k => ?_) key
   simp only [counterpaneref04_part.l0]
   rw [if_pos (by omega),if_pos (by omega),hb,wrap_1 h2 hn]
   simp only [letB,Bool.or_eq_true,beq_iff_eq,Bool.and_eq_true,decide_eq_true_eq] at hl
   repeat' split
   all_goals first | rfl | omega
  | false =>
   rw [Bool.false_and]
   refine Ev.step (f:=fun _ => some false) (fun k => ?_) (Ev.now _)
   simp only [counterpaneref04_part.l0]
   rw [if_pos (by omega),if_pos (by omega),hb]
   simp only [letB,Bool.or_eq_false_iff,beq_eq_false_iff_ne,Bool.and_eq_false_iff,decide_eq_false_iff_not,ne_eq] at hl
   repeat' split
   all_goals first | rfl | omega
theorem refPart (s : ByteArray) (hn : s.size ≤ 140737488355328) : Ev (fun k => counterpaneref04_part.f k s) (partB s):=by
 have yes : Ev (fun k => counterpaneref04_part.j0 k s true) false:=Ev.step (f:=fun _ => some false) (fun k => by simp only [counterpaneref04_part.j0,if_true]) (Ev.now _)
 have hl : s.toList.length = s.size:=size_toList s
 unfold partB
 by_cases h0 : s.toList = []
 ·rw [if_pos h0]
  refine Ev.congr (fun k => if_pos ?_) yes
  rw [h0] at hl
  simp at hl
  omega
 ·have h1 : s.toList.length ≠ 0:=fun e => h0 (List.length_eq_zero_iff.1 e)
  rw [if_neg h0]
  refine Ev.congr (fun k => if_neg (by omega)) ?_
  by_cases h16 : s.size ≤ 16
  ·rw [if_pos h16]
   refine Ev.congr (fun k => if_neg (by omega)) ?_
   by_cases hd : s.toList = [46]
   ·rw [if_pos hd]
    exact Ev.congr (fun k => if_pos hd) yes
   ·rw [if_neg hd]
    refine Ev.congr (fun k => if_neg hd) ?_
    by_cases hdd : s.toList = [46,46]
    ·rw [if_pos hdd]
     refine Ev.congr (fun k => ?_) yes
     rw [hdd]
     rfl
    ·rw [if_neg hdd,strange_eq,Bool.not_not]
     have e : (s.toList == ([46,46] : List UInt8)) = false:=by simpa using hdd
     have:=refPart_l s hn s.size 0 (by omega)
     rw [List.drop_zero] at this
     refine Ev.step (f:=fun k => counterpaneref04_part.l0 k s ((0 : Nat) : Int)) (fun k => ?_) this
     simp only [counterpaneref04_part.j0,e,Bool.false_eq_true,if_false]
     rfl
  ·rw [if_neg h16]
   exact Ev.congr (fun k => if_pos (by omega)) yes

theorem pieces_at (c : UInt8) : ∀ (l : List UInt8) (i : Nat),(∀ j,j < i → l[j]? ≠ some c) → l[i]? = some c → pieces c l = l.take i :: pieces c (l.drop (i + 1))
 | [],i,_,h => by simp at h
 | b :: l,0,_,h => by
  obtain rfl : b = c:=by simpa using h
  simp [pieces]
 | b :: l,i + 1,hn,h => by
  have hb : ¬ b = c:=fun e => hn 0 (by omega) (by simp [e])
  have ih:=pieces_at c l i (fun j hj => by simpa using hn (j + 1) (by omega)) (by simpa using h)
  rw [pieces,if_neg hb,ih]
  rfl
theorem pieces_end (c : UInt8) : ∀ (l : List UInt8),(∀ j : Nat,l[j]? ≠ some c) → pieces c l = [l]
 | [],_ => rfl
 | b :: l,hn => by
  have hb : ¬ b = c:=fun e => hn 0 (by simp [e])
  rw [pieces,if_neg hb,pieces_end c l (fun j => by simpa using hn (j + 1))]
def restB (n : Nat) (l : List UInt8) : Bool:=(pieces 47 l).all (fun y => partB ⟨y.toArray⟩) && decide (n + (pieces 47 l).length ≤ 8)
theorem restB_cons (n : Nat) (l : List UInt8) (y : List UInt8) (r : List UInt8) (h : pieces 47 l = y :: pieces 47 r) : restB n l = (partB ⟨y.toArray⟩ && restB (n + 1) r):=by
 rw [restB,h,List.all_cons,List.length_cons,restB,Bool.and_assoc]
 congr 2
 exact decide_eq_decide.2 (by omega)
theorem refRight_l (s : ByteArray) (hn : s.size ≤ 140737488355328) : ∀ (d i fr n : Nat),i + d = s.size → fr ≤ i → n ≤ i → (∀ j,fr ≤ j → j < i → s.data.toList[j]? ≠ some 47) →
  Ev (fun k => counterpaneref04_Right.l0 k s (n : Int) (fr : Int) (i : Int)) (restB n (s.data.toList.drop fr)):=by
 have hdl:=dlen s
 have hf : ∀ y : List UInt8,y.length ≤ s.size → (⟨y.toArray⟩ : ByteArray).size ≤ 140737488355328:=fun y hy => by
  have : (⟨y.toArray⟩ : ByteArray).size = y.length:=by simp [ByteArray.size]
  omega
 have piece : ∀ fr i : Nat,s.extract fr i = ⟨((s.data.toList.drop fr).take (i - fr)).toArray⟩:=fun fr i => by
  refine data_inj ?_
  rw [extract_data]
  simp only
  rw [List.take_drop]
  by_cases h : fr ≤ i
  ·rw [show fr + (i - fr) = i by omega]
  ·rw [List.drop_eq_nil_of_le (by simp; omega),List.drop_eq_nil_of_le (by simp; omega)]
 intro d
 induction d with
 | zero =>
  intro i fr n hi hfr hni hno
  obtain rfl : i = s.size:=by omega
  have hp : pieces 47 (s.data.toList.drop fr) = [s.data.toList.drop fr]:=pieces_end 47 _ (fun j => by
   rw [List.getElem?_drop]
   by_cases hj : fr + j < s.size
   ·exact hno _ (by omega) hj
   ·rw [List.getElem?_eq_none (by omega)]; simp)
  have he : s.extract fr s.size = ⟨(s.data.toList.drop fr).toArray⟩:=by
   rw [piece,List.take_of_length_le (by simp)]
  have hP:=refPart ⟨(s.data.toList.drop fr).toArray⟩ (hf _ (by simp))
  have last : ∀ m : Nat,Ev (fun k => counterpaneref04_Right.l0 k s (m : Int) ((s.size + 1 : Nat) : Int) ((s.size + 1 : Nat) : Int)) (decide (m ≤ 8)):=fun m => by
   refine Ev.step (f:=fun _ => some (decide (m ≤ 8))) (fun k => ?_) (Ev.now _)
   simp only [counterpaneref04_Right.l0]
   rw [if_neg (by omega)]
   exact congrArg some (decide_eq_decide.2 (by omega))
  have hr : restB n (s.data.toList.drop fr) = (partB ⟨(s.data.toList.drop fr).toArray⟩ && decide (n + 1 ≤ 8)):=by
   rw [restB,hp]
   simp
  rw [hr]
  refine Ev.step (f:=fun k => counterpaneref04_Right.j1 k s (n : Int) (fr : Int) (s.size : Int) false) (fun k => ?_) ?_
  ·simp only [counterpaneref04_Right.l0]
   rw [if_pos (by omega),if_neg (by omega)]
  ·refine Ev.step (f:=fun k => (counterpaneref04_part.f k ⟨(s.data.toList.drop fr).toArray⟩).bind fun t => if t = true then counterpaneref04_Right.l0 k s ((n + 1 : Nat) : Int) ((s.size + 1 : Nat) : Int) ((s.size + 1 : Nat) : Int) else some false) (fun k => ?_) ?_
   ·simp only [counterpaneref04_Right.j1,Bool.false_eq_true,if_false]
    rw [if_pos (by omega),if_pos (by omega),if_pos (by omega),Int.toNat_natCast,Int.toNat_natCast,he]
    have w1 : wrap64 ((n : Int) + 1) = ((n + 1 : Nat) : Int):=by rw [wrap_id (by omega) (by omega)]; omega
    have w2 : wrap64 ((s.size : Int) + 1) = ((s.size + 1 : Nat) : Int):=by rw [wrap_id (by omega) (by omega)]; omega
    rw [w1,w2]
   ·cases hb : partB ⟨(s.data.toList.drop fr).toArray⟩ with
    | true =>
     rw [hb] at hP
     rw [Bool.true_and]
     exact Ev.bind (f:=fun k t => if t = true then counterpaneref04_Right.l0 k s ((n + 1 : Nat) : Int) ((s.size + 1 : Nat) : Int) ((s.size + 1 : Nat) : Int) else some false) hP (Ev.congr (fun k => if_pos rfl) (last (n + 1)))
    | false =>
     rw [hb] at hP
     rw [Bool.false_and]
     exact Ev.bind (f:=fun k t => if t = true then counterpaneref04_Right.l0 k s ((n + 1 : Nat) : Int) ((s.size + 1 : Nat) : Int) ((s.size + 1 : Nat) : Int) else some false) hP (Ev.congr (fun k => if_neg (by simp)) (Ev.now _))
 | succ d ih =>
  intro i fr n hi hfr hni hno
  have h2 : i < s.size:=by omega
  have h1 : i < s.data.toList.length:=by omega
  have hb:=bt_get s i h2
  by_cases hc : s.data.toList[i] = 47
  ·have hp : pieces 47 (s.data.toList.drop fr) = (s.data.toList.drop fr).take (i - fr) :: pieces 47 (s.data.toList.drop (i + 1)):=by
    have:=pieces_at 47 (s.data.toList.drop fr) (i - fr) (fun j hj => by rw [List.getElem?_drop]; exact hno _ (by omega) (by omega)) (by rw [List.getElem?_drop,show fr + (i - fr) = i by omega,List.getElem?_eq_getElem h1,hc])
    rw [this,List.drop_drop,show fr + (i - fr + 1) = i + 1 by omega]
   rw [restB_cons _ _ _ _ hp]
   have he:=piece fr i
   have hP:=refPart ⟨((s.data.toList.drop fr).take (i - fr)).toArray⟩ (hf _ (by simp; omega))
   have key:=ih (i + 1) (i + 1) (n + 1) (by omega) (Nat.le_refl _) (by omega) (fun j h3 h4 => by omega)
   refine Ev.step (f:=fun k => counterpaneref04_Right.j1 k s (n : Int) (fr : Int) (i : Int) false) (fun k => ?_) ?_
   ·simp only [counterpaneref04_Right.l0]
    rw [if_pos (by omega),if_pos (by omega),if_pos (by omega),hb,hc]
    rfl
   ·refine Ev.step (f:=fun k => (counterpaneref04_part.f k ⟨((s.data.toList.drop fr).take (i - fr)).toArray⟩).bind fun t => if t = true then counterpaneref04_Right.l0 k s ((n + 1 : Nat) : Int) ((i + 1 : Nat) : Int) ((i + 1 : Nat) : Int) else some false) (fun k => ?_) ?_
    ·simp only [counterpaneref04_Right.j1,Bool.false_eq_true,if_false]
     rw [if_pos (by omega),if_pos (by omega),if_pos (by omega),Int.toNat_natCast,Int.toNat_natCast,he,wrap_1 h2 hn]
     have w1 : wrap64 ((n : Int) + 1) = ((n + 1 : Nat) : Int):=by rw [wrap_id (by omega) (by omega)]; omega
     rw [w1]
    ·cases hb : partB ⟨((s.data.toList.drop fr).take (i - fr)).toArray⟩ with
     | true =>
      rw [hb] at hP
      rw [Bool.true_and]
      exact Ev.bind (f:=fun k t => if t = true then counterpaneref04_Right.l0 k s ((n + 1 : Nat) : Int) ((i + 1 : Nat) : Int) ((i + 1 : Nat) : Int) else some false) hP (Ev.congr (fun k => if_pos rfl) key)
     | false =>
      rw [hb] at hP
      rw [Bool.false_and]
      exact Ev.bind (f:=fun k t => if t = true then counterpaneref04_Right.l0 k s ((n + 1 : Nat) : Int) ((i + 1 : Nat) : Int) ((i + 1 : Nat) : Int) else some false) hP (Ev.congr (fun k => if_neg (by simp)) (Ev.now _))
  ·have key:=ih (i + 1) fr n (by omega) (by omega) (by omega) (fun j h3 h4 => by
    by_cases hj : j = i
    ·subst hj
     rw [List.getElem?_eq_getElem h1]
     simpa using hc
    ·exact hno j h3 (by omega))
   refine Ev.step (f:=fun k => counterpaneref04_Right.j1 k s (n : Int) (fr : Int) (i : Int) true) (fun k => ?_) (Ev.step (f:=fun k => counterpaneref04_Right.l0 k s (n : Int) (fr : Int) ((i + 1 : Nat) : Int)) (fun k => ?_) key)
   ·simp only [counterpaneref04_Right.l0]
    rw [if_pos (by omega),if_pos (by omega),if_pos (by omega),hb]
    have hne : (((s.data.toList[i]).toNat : Int) != 47) = true:=by
     rw [bne_iff_ne]
     intro e
     have h47 : (47 : UInt8).toNat = 47:=rfl
     exact hc (UInt8.toNat_inj.1 (by rw [h47]; omega))
    rw [hne]
   ·simp only [counterpaneref04_Right.j1,if_true]
    rw [wrap_1 h2 hn]
theorem refRight (s : ByteArray) (hn : s.size ≤ 140737488355328) : Ev (fun k => counterpaneref04_Right.f k s) (rightB s):=by
 have h:=refRight_l s hn s.size 0 0 0 (by omega) (Nat.le_refl _) (Nat.le_refl _) (fun j _ h => by omega)
 have e : restB 0 (s.data.toList.drop 0) = rightB s:=by
  rw [List.drop_zero,restB,rightB,Nat.zero_add]
 rw [e] at h
 exact h

theorem refIn_all : ∀ c : Fin 256,counterpaneref05_in.f (c.val : Int) = lines_in.f (c.val : Int):=by decide +kernel
theorem refIn_f (c : Nat) (h : c < 256) : counterpaneref05_in.f (c : Int) = some (inB (c : Int)):=(refIn_all ⟨c,h⟩).trans (in_f _)
theorem refToken_l (s : ByteArray) (hn : s.size ≤ 140737488355328) : ∀ (d i : Nat),i + d = s.size → Ev (fun k => counterpaneref05_Token.l0 k s (i : Int)) ((s.data.toList.drop i).all (fun b => inB (b.toNat : Int)) && decide (0 < s.size)):=by
 have hsl:=dlen s
 intro d
 induction d with
 | zero =>
  intro i hi
  refine Ev.step (f:=fun _ => some (decide (0 < s.size))) (fun k => ?_) ?_
  ·simp only [counterpaneref05_Token.l0]
   rw [if_neg (by omega)]
   exact congrArg some (decide_eq_decide.2 (by omega))
  ·rw [List.drop_of_length_le (by omega)]
   simpa using Ev.now _
 | succ d ih =>
  intro i hi
  have h1 : i < s.data.toList.length:=by omega
  have h2 : i < s.size:=by omega
  have eb:=bt_get s i h2
  have key:=ih (i + 1) (by omega)
  rw [List.drop_eq_getElem_cons h1,List.all_cons]
  have hin:=refIn_f (s.data.toList[i]).toNat (UInt8.toNat_lt _)
  cases hb : inB (s.data.toList[i].toNat : Int) with
  | true =>
   rw [Bool.true_and]
   refine Ev.step (f:=fun k => counterpaneref05_Token.l0 k s ((i + 1 : Nat) : Int)) (fun k => ?_) key
   simp only [counterpaneref05_Token.l0]
   rw [if_pos (by omega),if_pos (by omega),eb,hin,hb,Option.bind_some,if_pos rfl,wrap_1 h2 hn]
  | false =>
   rw [Bool.false_and,Bool.false_and]
   refine Ev.step (f:=fun _ => some false) (fun k => ?_) (Ev.now _)
   simp only [counterpaneref05_Token.l0]
   rw [if_pos (by omega),if_pos (by omega),eb,hin,hb,Option.bind_some,if_neg (by simp)]
theorem refToken (s : ByteArray) (hn : s.size ≤ 140737488355328) : Ev (fun k => counterpaneref05_Token.f k s) (tokenB s):=by
 have h:=refToken_l s hn s.size 0 (by omega)
 rw [List.drop_zero] at h
 have e : (s.toList != ([] : List UInt8)) = decide (0 < s.size):=by
  have hl:=size_toList s
  by_cases hz : s.toList = []
  ·rw [hz] at hl ⊢
   simp at hl
   have : ¬ 0 < s.size:=by omega
   rw [decide_eq_false this]
   rfl
  ·have h1 : s.toList.length ≠ 0:=fun e => hz (List.length_eq_zero_iff.1 e)
   rw [decide_eq_true (by omega)]
   simpa using hz
 rw [tokenB,e]
 exact h

theorem nl_of (s : ByteArray) : hasNL s = s.data.toList.any (fun b => b == 10):=by
 have key : ∀ l : List UInt8,decide (0 ≤ Lib.indexByte l 10) = l.any (fun b => b == 10):=by
  intro l
  induction l with
  | nil => rfl
  | cons b l ih =>
   rw [List.any_cons,← ih]
   have hg:=Lib.indexByte_ge l 10
   cases hb : (b == 10) with
   | true => simp [Lib.indexByte,hb]
   | false =>
    simp only [Lib.indexByte,hb,Bool.false_eq_true,if_false,Bool.false_or]
    by_cases e : Lib.indexByte l 10 = -1
    ·simp [e]
    ·have e' : (Lib.indexByte l 10 == -1) = false:=by simpa using e
     simp only [e',Bool.false_eq_true,if_false]
     exact decide_eq_decide.2 (by omega)
 exact key _
theorem refLines_in (l : List ByteArray) (hl : l.length ≤ 140737488355328) (i : Nat) (hi : i < l.length) (r : Bool) (hs : l[i].size ≤ 140737488355328)
  (hr : Ev (fun k => counterpaneref05_Right.l0 k l ((i + 1 : Nat) : Int)) r) : ∀ (d j : Nat),j + d = l[i].size → Ev (fun k => counterpaneref05_Right.l1 k l (i : Int) (j : Int)) (!((l[i].data.toList.drop j).any (fun b => b == 10)) && r):=by
 have hsl:=dlen l[i]
 have hrd:=rdOf_get ByteArray.empty l hi
 intro d
 induction d with
 | zero =>
  intro j hj
  refine Ev.step (f:=fun k => counterpaneref05_Right.l0 k l ((i + 1 : Nat) : Int)) (fun k => ?_) ?_
  ·simp only [counterpaneref05_Right.l1]
   rw [if_pos (by omega),if_pos (by omega),hrd,if_neg (by omega),wrap_1 hi hl]
  ·rw [List.drop_of_length_le (by omega)]
   simpa using hr
 | succ d ih =>
  intro j hj
  have h1 : j < l[i].data.toList.length:=by omega
  have h2 : j < l[i].size:=by omega
  have eb:=bt_get l[i] j h2
  have key:=ih (j + 1) (by omega)
  rw [List.drop_eq_getElem_cons h1,List.any_cons]
  obtain ⟨c,hc⟩ : ∃ c,l[i].data.toList[j] = c:=⟨_,rfl⟩
  rw [hc] at eb ⊢
  have h10 : (10 : UInt8).toNat = 10:=rfl
  by_cases hb : c = 10
  ·have e : (c == 10) = true:=by simpa using hb
   rw [e,Bool.true_or,Bool.not_true,Bool.false_and]
   refine Ev.step (f:=fun _ => some false) (fun k => ?_) (Ev.now _)
   simp only [counterpaneref05_Right.l1]
   rw [if_pos (by omega),if_pos (by omega),hrd,if_pos (by omega),if_pos (by omega),eb,hb]
   exact if_pos rfl
  ·have e : (c == 10) = false:=by simpa using hb
   rw [e,Bool.false_or]
   refine Ev.step (f:=fun k => counterpaneref05_Right.l1 k l (i : Int) ((j + 1 : Nat) : Int)) (fun k => ?_) key
   simp only [counterpaneref05_Right.l1]
   rw [if_pos (by omega),if_pos (by omega),hrd,if_pos (by omega),if_pos (by omega),eb,if_neg ?_,wrap_1 h2 hs]
   intro e2
   exact hb (UInt8.toNat_inj.1 (by rw [h10]; omega))
theorem refLines_l (l : List ByteArray) (hl : l.length ≤ 140737488355328) (hs : ∀ x ∈ l,x.size ≤ 140737488355328) : ∀ (d i : Nat),i + d = l.length → Ev (fun k => counterpaneref05_Right.l0 k l (i : Int)) (!((l.drop i).any hasNL)):=by
 intro d
 induction d with
 | zero =>
  intro i hi
  refine Ev.step (f:=fun _ => some true) (fun k => ?_) ?_
  ·simp only [counterpaneref05_Right.l0]
   rw [if_neg (by omega)]
  ·rw [List.drop_of_length_le (by omega)]
   exact Ev.now _
 | succ d ih =>
  intro i hi
  have h1 : i < l.length:=by omega
  have h:=refLines_in l hl i h1 _ (hs _ (List.getElem_mem h1)) (ih (i + 1) (by omega)) l[i].size 0 (by omega)
  rw [List.drop_zero,← nl_of,← Bool.not_or,← List.any_cons,← List.drop_eq_getElem_cons h1] at h
  refine Ev.step (f:=fun k => counterpaneref05_Right.l1 k l (i : Int) ((0 : Nat) : Int)) (fun k => ?_) h
  simp only [counterpaneref05_Right.l0]
  rw [if_pos (by omega)]
  rfl
theorem refLinesRight (l : List ByteArray) (hl : l.length ≤ 140737488355328) (hs : ∀ x ∈ l,x.size ≤ 140737488355328) : Ev (fun k => counterpaneref05_Right.f k l) (linesB l):=by
 have h:=refLines_l l hl hs l.length 0 (by omega)
 rw [List.drop_zero] at h
 exact h

def listsB (x : S25) : Bool:=decide (x.f5.length = 0) && decide (x.f6.length = 0) && x.f4 == 0
theorem lists_not (x : S25) : listedB x = !listsB x:=by
 unfold listedB listsB
 cases hf : (x.f4 == 0) with
 | true =>
  have e : (x.f4 != 0) = false:=by simp [bne,hf]
  rw [e,Bool.or_false,Bool.and_true]
  by_cases h5 : x.f5.length = 0 <;> by_cases h6 : x.f6.length = 0 <;> simp [h5,h6] <;> omega
 | false =>
  have e : (x.f4 != 0) = true:=by simp [bne,hf]
  rw [e,Bool.or_true,Bool.and_false]
  rfl
theorem ev_two (a b : Nat → Option Bool) (x y z : Bool) (ha : Ev a x) (hb : Ev b y) : Ev (fun k => (a k).bind fun t => if t = true then (b k).bind (fun u => if u = true then some z else some false) else some false) (x && y && z):=by
 cases x with
 | false => exact Ev.bind (f:=fun k t => if t = true then (b k).bind (fun u => if u = true then some z else some false) else some false) ha (Ev.now _)
 | true =>
  refine Ev.bind (f:=fun k t => if t = true then (b k).bind (fun u => if u = true then some z else some false) else some false) ha ?_
  cases y with
  | false => exact Ev.bind (f:=fun k u => if u = true then some z else some false) hb (Ev.now _)
  | true => exact Ev.bind (f:=fun k u => if u = true then some z else some false) hb (Ev.congr (fun k => if_pos rfl) (by simpa using Ev.now z))
theorem ev_one (a : Nat → Option Bool) (x z : Bool) (ha : Ev a x) : Ev (fun k => (a k).bind fun t => if t = true then some z else some false) (x && z):=by
 cases x with
 | false => exact Ev.bind (f:=fun k t => if t = true then some z else some false) ha (Ev.now _)
 | true => exact Ev.bind (f:=fun k t => if t = true then some z else some false) ha (Ev.congr (fun k => if_pos rfl) (by simpa using Ev.now z))
theorem refKind (x : S25) (hx : Okq x) : Ev (fun k => counterpaneref08_Right.j1 k (listsB x) x.f0 (decide (1 ≤ x.f0) && decide (x.f0 ≤ 6)) x.f0 x.f1 x.f2 x.f3 x.f4 x.f5 x.f6) (!(listedB x && x.f0 != 7) && kindB x):=by
 have k5:=hx.ok.ok.1
 have k6:=hx.ok.ok.2
 have t3:=refToken x.f3 hx.ok.s3
 have t2:=refToken x.f2 hx.ok.s2
 have r2:=refRight x.f2 hx.ok.s2
 have n5:=refLinesRight x.f5 k5 hx.l5
 have n6:=refLinesRight x.f6 k6 hx.l6
 rw [lists_not]
 unfold kindB
 by_cases h16 : 1 ≤ x.f0 ∧ x.f0 ≤ 6
 ·obtain ⟨h1,h6⟩:=h16
  have e : (decide (1 ≤ x.f0) && decide (x.f0 ≤ 6)) = true:=by simp [h1,h6]
  have e7 : (x.f0 != 7) = true:=by rw [bne_iff_ne]; omega
  rw [e,e7,if_neg (by omega),if_neg (by omega)]
  refine Ev.step (f:=fun _ => some _) (fun k => ?_) (Ev.now _)
  simp only [counterpaneref08_Right.j1,if_true]
  cases listsB x with
  | false => rw [if_neg (by simp)]; rfl
  | true =>
   rw [if_pos rfl]
   by_cases h3 : x.f3.toList = ([] : List UInt8)
   ·rw [if_pos h3,if_pos h3,if_neg (by omega),if_neg (by omega),decide_eq_true (by omega : x.f0 ≥ 1),decide_eq_true h6]
    by_cases h2 : x.f2.toList = ([] : List UInt8) <;> simp [h2]
   ·rw [if_neg h3,if_neg h3]; rfl
 ·have e : (decide (1 ≤ x.f0) && decide (x.f0 ≤ 6)) = false:=by
   by_cases h1 : 1 ≤ x.f0
   ·have h6 : ¬ x.f0 ≤ 6:=fun h => h16 ⟨h1,h⟩
    simp [h6]
   ·simp [h1]
  rw [e]
  by_cases h8 : x.f0 = 8
  ·have e7 : (x.f0 != 7) = true:=by rw [bne_iff_ne]; omega
   rw [if_pos h8,e7]
   cases hl : listsB x with
   | false =>
    refine Ev.step (f:=fun _ => some false) (fun k => ?_) (Ev.now _)
    simp only [counterpaneref08_Right.j1,Bool.false_eq_true,if_false,if_pos h8]
    rw [if_neg (by omega)]
   | true =>
    refine Ev.step (f:=fun k => (counterpaneref05_Token.f k x.f3).bind fun t => if t = true then (counterpaneref05_Token.f k x.f2).bind (fun u => if u = true then some (x.f3.toList != x.f2.toList) else some false) else some false) (fun k => ?_) (by simpa using ev_two _ _ _ _ (x.f3.toList != x.f2.toList) t3 t2)
    simp only [counterpaneref08_Right.j1,Bool.false_eq_true,if_false,if_pos h8,if_true]
    rw [if_neg (by omega)]
  ·rw [if_neg h8]
   by_cases h9 : x.f0 = 9
   ·have e7 : (x.f0 != 7) = true:=by rw [bne_iff_ne]; omega
    rw [if_pos h9,e7]
    refine Ev.step (f:=fun _ => some _) (fun k => ?_) (Ev.now _)
    simp only [counterpaneref08_Right.j1,Bool.false_eq_true,if_false,if_neg h8,if_pos h9]
    rw [if_neg (by omega)]
    cases listsB x <;> rfl
   ·rw [if_neg h9]
    by_cases h10 : x.f0 = 10
    ·have e7 : (x.f0 != 7) = true:=by rw [bne_iff_ne]; omega
     rw [e7]
     by_cases h3 : x.f3.toList = ([] : List UInt8)
     ·rw [if_pos h3,if_pos h10]
      cases hl : listsB x with
      | false =>
       refine Ev.step (f:=fun _ => some false) (fun k => ?_) (Ev.now _)
       simp only [counterpaneref08_Right.j1,Bool.false_eq_true,if_false,if_neg h8,if_neg h9,if_pos h10]
       rw [if_neg (by omega)]
      | true =>
       refine Ev.step (f:=fun k => (counterpaneref04_Right.f k x.f2).bind fun t => if t = true then some (apartB x.f1 x.f2) else some false) (fun k => ?_) (by simpa using ev_one _ _ (apartB x.f1 x.f2) r2)
       simp only [counterpaneref08_Right.j1,Bool.false_eq_true,if_false,if_neg h8,if_neg h9,if_pos h10,if_true,if_pos h3,refApart_f,Option.bind_some]
       rw [if_neg (by omega)]
     ·rw [if_neg h3]
      refine Ev.step (f:=fun _ => some _) (fun k => ?_) (Ev.now _)
      simp only [counterpaneref08_Right.j1,Bool.false_eq_true,if_false,if_neg h8,if_neg h9,if_pos h10,if_neg h3]
      rw [if_neg (by omega)]
      cases listsB x <;> rfl
    ·by_cases h7 : x.f0 = 7
     ·have e7 : (x.f0 != 7) = false:=by simp [bne,h7]
      rw [e7,Bool.and_false,Bool.not_false,Bool.true_and]
      have ez : decide (wrap64 ((x.f5.length : Int) + (x.f6.length : Int)) > 0) = decide (0 < x.f5.length + x.f6.length):=by
       rw [wrap_id (by omega) (by omega)]
       exact decide_eq_decide.2 (by omega)
      by_cases h3 : x.f3.toList = ([] : List UInt8)
      ·rw [if_pos h3,if_neg h10,if_pos h7]
       by_cases h2 : x.f2.toList = ([] : List UInt8)
       ·by_cases ha : x.f4 ≥ 0
        ·by_cases hb : x.f4 ≤ 1073741824
         ·rw [decide_eq_true h2,decide_eq_true ha,decide_eq_true hb]
          refine Ev.step (f:=fun k => (counterpaneref05_Right.f k x.f5).bind fun t => if t = true then (counterpaneref05_Right.f k x.f6).bind (fun u => if u = true then some (decide (0 < x.f5.length + x.f6.length)) else some false) else some false) (fun k => ?_) (by simpa using ev_two _ _ _ _ (decide (0 < x.f5.length + x.f6.length)) n5 n6)
          simp only [counterpaneref08_Right.j1,Bool.false_eq_true,if_false,if_pos h7,if_pos h3,if_pos h2,if_pos ha,if_pos hb,ez]
         ·rw [decide_eq_false hb]
          refine Ev.step (f:=fun _ => some false) (fun k => ?_) (by simpa using Ev.now false)
          simp only [counterpaneref08_Right.j1,Bool.false_eq_true,if_false,if_pos h7,if_pos h3,if_pos h2,if_pos ha,if_neg hb]
        ·rw [decide_eq_false ha]
         refine Ev.step (f:=fun _ => some false) (fun k => ?_) (by simpa using Ev.now false)
         simp only [counterpaneref08_Right.j1,Bool.false_eq_true,if_false,if_pos h7,if_pos h3,if_pos h2,if_neg ha]
       ·rw [decide_eq_false h2]
        refine Ev.step (f:=fun _ => some false) (fun k => ?_) (by simpa using Ev.now false)
        simp only [counterpaneref08_Right.j1,Bool.false_eq_true,if_false,if_pos h7,if_pos h3,if_neg h2]
      ·rw [if_neg h3]
       refine Ev.step (f:=fun _ => some false) (fun k => ?_) (Ev.now _)
       simp only [counterpaneref08_Right.j1,Bool.false_eq_true,if_false,if_pos h7,if_neg h3]
     ·have ek : (if x.f3.toList = ([] : List UInt8) then (if x.f0 = 10 then rightB x.f2 && apartB x.f1 x.f2 else if x.f0 = 7 then decide (x.f2.toList = ([] : List UInt8)) && decide (x.f4 ≥ 0) && decide (x.f4 ≤ 1073741824) && linesB x.f5 && linesB x.f6 && decide (0 < x.f5.length + x.f6.length) else decide (x.f2.toList = ([] : List UInt8)) && decide (x.f0 ≥ 1) && decide (x.f0 ≤ 6)) else false) = false:=by
       by_cases h3 : x.f3.toList = ([] : List UInt8)
       ·rw [if_pos h3,if_neg h10,if_neg h7,Bool.and_assoc,show (decide (x.f0 ≥ 1) && decide (x.f0 ≤ 6)) = false from e,Bool.and_false]
       ·rw [if_neg h3]
      rw [ek,Bool.and_false]
      refine Ev.step (f:=fun _ => some false) (fun k => ?_) (Ev.now _)
      simp only [counterpaneref08_Right.j1,Bool.false_eq_true,if_false,if_neg h8,if_neg h9,if_neg h10,if_neg h7]
theorem refPrim (x : S25) (hx : Okq x) : Ev (fun k => counterpaneref08_Right.f k x.f0 x.f1 x.f2 x.f3 x.f4 x.f5 x.f6) (primB x):=by
 have hk:=refKind x hx
 have h1:=refRight x.f1 hx.ok.s1
 have j0 : Ev (fun k => counterpaneref08_Right.j0 k (listsB x) x.f0 x.f1 x.f2 x.f3 x.f4 x.f5 x.f6) (!(listedB x && x.f0 != 7) && kindB x):=by
  refine Ev.step (fun k => ?_) hk
  simp only [counterpaneref08_Right.j0]
  by_cases a1 : x.f0 = 1
  ·simp [a1]
  ·by_cases a2 : x.f0 = 2
   ·simp [a2]
   ·by_cases a3 : x.f0 = 3
    ·simp [a3]
    ·by_cases a4 : x.f0 = 4
     ·simp [a4]
     ·by_cases a5 : x.f0 = 5
      ·simp [a5]
      ·rw [if_neg a1,if_neg a2,if_neg a3,if_neg a4,if_neg a5]
       have : (x.f0 == 6) = (decide (1 ≤ x.f0) && decide (x.f0 ≤ 6)):=by
        by_cases a6 : x.f0 = 6
        ·simp [a6]
        ·have e1 : (x.f0 == 6) = false:=by simpa using a6
         rw [e1]
         by_cases b1 : 1 ≤ x.f0
         ·have : ¬ x.f0 ≤ 6:=by omega
          simp [this]
         ·simp [b1]
       rw [this]
 have hj : Ev (fun k => if (x.f5.length : Int) = 0 then (if (x.f6.length : Int) = 0 then (counterpaneref08_Right.j0 k (x.f4 == 0) x.f0 x.f1 x.f2 x.f3 x.f4 x.f5 x.f6) else (counterpaneref08_Right.j0 k false x.f0 x.f1 x.f2 x.f3 x.f4 x.f5 x.f6)) else (counterpaneref08_Right.j0 k false x.f0 x.f1 x.f2 x.f3 x.f4 x.f5 x.f6)) (!(listedB x && x.f0 != 7) && kindB x):=by
  refine Ev.congr (fun k => ?_) j0
  unfold listsB
  by_cases h5 : x.f5.length = 0
  ·rw [if_pos (by omega),decide_eq_true h5,Bool.true_and]
   by_cases h6 : x.f6.length = 0
   ·rw [if_pos (by omega),decide_eq_true h6,Bool.true_and]
   ·rw [if_neg (by omega),decide_eq_false h6,Bool.false_and]
  ·rw [if_neg (by omega),decide_eq_false h5,Bool.false_and,Bool.false_and]
 unfold counterpaneref08_Right.f primB
 rw [Bool.and_assoc]
 cases hr : rightB x.f1 with
 | false =>
  rw [hr] at h1
  exact Ev.bind (f:=fun k t => if t = true then (if (x.f5.length : Int) = 0 then (if (x.f6.length : Int) = 0 then (counterpaneref08_Right.j0 k (x.f4 == 0) x.f0 x.f1 x.f2 x.f3 x.f4 x.f5 x.f6) else (counterpaneref08_Right.j0 k false x.f0 x.f1 x.f2 x.f3 x.f4 x.f5 x.f6)) else (counterpaneref08_Right.j0 k false x.f0 x.f1 x.f2 x.f3 x.f4 x.f5 x.f6)) else some false) h1 (Ev.congr (fun k => if_neg (by simp)) (Ev.now _))
 | true =>
  rw [hr] at h1
  rw [Bool.true_and]
  exact Ev.bind (f:=fun k t => if t = true then (if (x.f5.length : Int) = 0 then (if (x.f6.length : Int) = 0 then (counterpaneref08_Right.j0 k (x.f4 == 0) x.f0 x.f1 x.f2 x.f3 x.f4 x.f5 x.f6) else (counterpaneref08_Right.j0 k false x.f0 x.f1 x.f2 x.f3 x.f4 x.f5 x.f6)) else (counterpaneref08_Right.j0 k false x.f0 x.f1 x.f2 x.f3 x.f4 x.f5 x.f6)) else some false) h1 (Ev.congr (fun k => if_pos rfl) hj)
end Go.Proofs.YthhohbidjhcjeaaGreatDoor.Pl
