/- Printed by a program of this place out of the translation: what the functions compute, and their contracts. -/
import Derived.Test.YthhohbidjhcjeaaDoorTQx0
import Derived.Test.YthhohbidjhcjeaaDoorTQx6
namespace Go.Proofs.YthhohbidjhcjeaaDoor.Q
open Go.RowKit Go.Proofs.YthhohbidjhcjeaaDoorW.PrintWords Go.Proofs.YthhohbidjhcjeaaDoorW.PrintLast Go.Proofs.YthhohbidjhcjeaaDoorW.PrintMore
attribute [local go_sem] max2_int min2_int max_two min_two max_three min_three max_four min_four   -- for this text's walks alone
set_option linter.unusedVariables false
set_option linter.unusedSimpArgs false

/-! ### counterpaneref04_Right: function 68 -/
mutual
def counterpaneref04_Right.l0 : Nat → ByteArray → Int → Int → Int → Option (Bool)
 | 0,_,_,_,_ => none
 | k + 1,x0,x3,x4,x5 => if x5 ≤ (x0.size : Int) then (if x5 < (x0.size : Int) then (if 0 ≤ x5 then (counterpaneref04_Right.j1 k x0 x3 x4 x5 ((bt x0 x5) != 47)) else (none)) else (counterpaneref04_Right.j1 k x0 x3 x4 x5 false)) else (some (decide (x3 ≤ 8)))
def counterpaneref04_Right.j1 : Nat → ByteArray → Int → Int → Int → Bool → Option (Bool)
 | 0,_,_,_,_,_ => none
 | k + 1,x0,x3,x4,x5,x21 => if x21 = true then (counterpaneref04_Right.l0 k x0 x3 x4 (wrap64 (x5 + 1))) else (if 0 ≤ x4 then (if x4 ≤ x5 then (if x5 ≤ (x0.size : Int) then ((counterpaneref04_part.f k (x0.extract (x4 : Int).toNat (x5 : Int).toNat)).bind fun t203 => (if t203 = true then (counterpaneref04_Right.l0 k x0 (wrap64 (x3 + 1)) (wrap64 (x5 + 1)) (wrap64 (x5 + 1))) else (some false))) else (none)) else (none)) else (none))
end
def counterpaneref04_Right.f (k : Nat) (a0 : ByteArray) : Option (Bool):=counterpaneref04_Right.l0 k a0 0 0 0
theorem counterpaneref04_Right.mono_l : ∀ k,(∀ y0 y1 y2 y3,LeO (counterpaneref04_Right.l0 k y0 y1 y2 y3) (counterpaneref04_Right.l0 (k + 1) y0 y1 y2 y3)) ∧ (∀ y0 y1 y2 y3 y4,LeO (counterpaneref04_Right.j1 k y0 y1 y2 y3 y4) (counterpaneref04_Right.j1 (k + 1) y0 y1 y2 y3 y4))
 | 0 => ⟨fun _ _ _ _ r h => by simp [counterpaneref04_Right.l0] at h,fun _ _ _ _ _ r h => by simp [counterpaneref04_Right.j1] at h⟩
 | k + 1 => by
  obtain ⟨ih0,ih1⟩:=counterpaneref04_Right.mono_l k
  refine ⟨?_,?_⟩
  ·intro y0 y1 y2 y3
   unfold counterpaneref04_Right.l0
   repeat' first
   | (with_reducible exact ih0 _ _ _ _)
   | (with_reducible exact ih1 _ _ _ _ _)
   | (with_reducible exact counterpaneref04_part.mono _ _)
   | (with_reducible exact LeO.refl _)
   | (with_reducible exact LeO.none _)
   | (with_reducible refine LeO.ite ?_ ?_)
   | (with_reducible refine LeO.bind ?_ (fun _ => ?_))
   | exact ih0 _ _ _ _
   | exact ih1 _ _ _ _ _
   | exact counterpaneref04_part.mono _ _
   | exact LeO.none _
   | refine LeO.ite ?_ ?_
   | refine LeO.bind ?_ (fun _ => ?_)
  ·intro y0 y1 y2 y3 y4
   unfold counterpaneref04_Right.j1
   repeat' first
   | (with_reducible exact ih0 _ _ _ _)
   | (with_reducible exact ih1 _ _ _ _ _)
   | (with_reducible exact counterpaneref04_part.mono _ _)
   | (with_reducible exact LeO.refl _)
   | (with_reducible exact LeO.none _)
   | (with_reducible refine LeO.ite ?_ ?_)
   | (with_reducible refine LeO.bind ?_ (fun _ => ?_))
   | exact ih0 _ _ _ _
   | exact ih1 _ _ _ _ _
   | exact counterpaneref04_part.mono _ _
   | exact LeO.none _
   | refine LeO.ite ?_ ?_
   | refine LeO.bind ?_ (fun _ => ?_)
theorem counterpaneref04_Right.mono : ∀ a0 k,LeO (counterpaneref04_Right.f k a0) (counterpaneref04_Right.f (k + 1) a0):=by
 intro a0 k
 obtain ⟨ih0,ih1⟩:=counterpaneref04_Right.mono_l k
 unfold counterpaneref04_Right.f
 repeat' first
   | (with_reducible exact ih0 _ _ _ _)
   | (with_reducible exact ih1 _ _ _ _ _)
   | (with_reducible exact counterpaneref04_part.mono _ _)
   | (with_reducible exact LeO.refl _)
   | (with_reducible exact LeO.none _)
   | (with_reducible refine LeO.ite ?_ ?_)
   | (with_reducible refine LeO.bind ?_ (fun _ => ?_))
   | exact ih0 _ _ _ _
   | exact ih1 _ _ _ _ _
   | exact counterpaneref04_part.mono _ _
   | exact LeO.none _
   | refine LeO.ite ?_ ?_
   | refine LeO.bind ?_ (fun _ => ?_)
set_option maxHeartbeats 8000000 in
set_option maxRecDepth 100000 in
theorem counterpaneref04_Right.calls (k : Nat) (a0 : ByteArray) (r : Bool) (w : World) (h : counterpaneref04_Right.f k a0 = some r) :
  Calls Tryd.prog 68 #[.string a0] w fun e w' => e = .returned (.bool r) ∧ Drawn0 w w':=by
 have H : (counterpaneref04_Right.l0 k a0 0 0 0) = some r:=h
 clear h
 have H':=Aside0.mk H
 clear H
 go_enter Tryd.func68,Tryd.ntmps68
 go_wp2
 go_loopg [3,4,5] k (fun kq v3 v4 v5 w' => ∃ (x3_1 : Int) (x4_1 : Int) (x5_1 : Int),v3 = .int .i64 x3_1 ∧ v4 = .int .i64 x4_1 ∧ v5 = .int .i64 x5_1 ∧ Aside0 (counterpaneref04_Right.l0 kq a0 x3_1 x4_1 x5_1 = some r) ∧ Aside0 (kq ≤ k) ∧ Drawn0 w w')
 case atStart => exact ⟨(0),(0),(0),(by first | rfl | (simp; done) | (simp [*]; done)),(by first | rfl | (simp; done) | (simp [*]; done)),(by first | rfl | (simp; done) | (simp [*]; done)),H',⟨Nat.le_refl _⟩,by repeat (first | exact Drawn0.refl _ | apply Drawn0.step)⟩
 case round =>
  clear H'
  obtain ⟨x3_1,x4_1,x5_1,rfl,rfl,rfl,HA,HK1,⟨m1,rfl⟩⟩:=hrel
  cases gk with
  | zero => exact absurd HA.out (by simp [counterpaneref04_Right.l0])
  | succ k1 =>
   have H:=HA.out
   clear HA
   simp only [counterpaneref04_Right.l0] at H
   by_cases c2 : x5_1 ≤ (a0.size : Int)
   ·rw [if_pos c2] at H
    have c2b0 : decide (x5_1 ≤ (a0.size : Int)) = true:=decide_eq_true c2
    clear c2
    have HC3:=Aside0.mk H
    clear H
    go_upto_region 6 with (fail)
    go_cut [21] (fun v21 wc => ∃ (kq : Nat) (x21_2 : Bool),v21 = .bool x21_2 ∧ Aside0 (counterpaneref04_Right.j1 kq a0 x3_1 x4_1 x5_1 x21_2 = some r) ∧ Aside0 (kq ≤ k1) ∧ Drawn0 w wc)
    case first =>
     have H:=HC3.out
     clear HC3
     by_cases c4 : x5_1 < (a0.size : Int)
     ·rw [if_pos c4] at H
      have c4b0 : decide (x5_1 < (a0.size : Int)) = true:=decide_eq_true c4
      clear c4
      (first | rw [c4b0] | (simp only [i64_w,i32_w]; rw [c4b0]) | skip)
      by_cases c5 : 0 ≤ x5_1
      ·rw [if_pos c5] at H
       have c5b0 : decide (0 ≤ x5_1) = true:=decide_eq_true c5
       clear c5
       have H':=Aside0.mk H
       clear H
       have p6 : 0 ≤ (x5_1 : Int):=of_decide_eq_true (by first | (with_reducible assumption) | assumption)
       have q6 : x5_1 < (a0.size : Int):=of_decide_eq_true (by first | (with_reducible assumption) | assumption)
       have hx6:=bt_at a0 x5_1
       replace p6:=eq_true p6
       replace q6:=eq_true q6
       go_wp2
       go_meet
       case rel => exact ⟨_,(((bt a0 x5_1) != 47)),(by first | rfl | (simp; done) | (simp [*]; done)),H',⟨by have:=HK1.out; first | omega | exact Nat.le_refl _⟩,by repeat (first | exact Drawn0.refl _ | apply Drawn0.step)⟩
      ·rw [if_neg c5] at H
       exact absurd H (by simp)
     ·rw [if_neg c4] at H
      have c4b0 : decide (x5_1 < (a0.size : Int)) = false:=decide_eq_false c4
      clear c4
      (first | rw [c4b0] | (simp only [i64_w,i32_w]; rw [c4b0]) | skip)
      have H':=Aside0.mk H
      clear H
      go_wp2
      go_meet
      case rel => exact ⟨_,(false),(by first | rfl | (simp; done) | (simp [*]; done)),H',⟨by have:=HK1.out; first | omega | exact Nat.le_refl _⟩,by repeat (first | exact Drawn0.refl _ | apply Drawn0.step)⟩
    case rest =>
     clear HC3
     try clear c2
     try clear c2b0
     try clear p2
     try clear c4
     try clear c4b0
     try clear c5
     try clear c5b0
     try clear c6
     try clear p6
     try clear q6
     try clear hx6
     try clear p6
     try clear q6
     obtain ⟨kq,x21_2,rfl,HA,HJ2,⟨mc2,rfl⟩⟩:=hcut
     cases kq with
     | zero => exact absurd HA.out (by simp [counterpaneref04_Right.j1])
     | succ kj2 =>
      have H:=HA.out
      clear HA
      simp only [counterpaneref04_Right.j1] at H
      by_cases c7 : x21_2 = true
      ·subst c7
       have H1 : (counterpaneref04_Right.l0 kj2 a0 x3_1 x4_1 (wrap64 (x5_1 + 1))) = some r:=by rw [if_pos rfl] at H; exact H
       clear H
       have H:=H1
       clear H1
       have H':=Aside0.mk H
       clear H
       go_wp2
       go_roundg kj2
       case measure => have:=HK1.out; have:=HJ2.out; omega
       case rel => exact ⟨(x3_1),(x4_1),(wrap64 (x5_1 + 1)),(by first | rfl | (simp; done) | (simp [*]; done)),(by first | rfl | (simp; done) | (simp [*]; done)),(by first | rfl | (simp; done) | (simp [*]; done)),H',⟨by have:=HK1.out; have:=HJ2.out; omega⟩,by repeat (first | exact Drawn0.refl _ | apply Drawn0.step)⟩
      ·replace c7:=Bool.eq_false_iff.mpr c7
       subst c7
       have H1 : (if 0 ≤ x4_1 then (if x4_1 ≤ x5_1 then (if x5_1 ≤ (a0.size : Int) then ((counterpaneref04_part.f kj2 (a0.extract (x4_1 : Int).toNat (x5_1 : Int).toNat)).bind fun t203 => (if t203 = true then (counterpaneref04_Right.l0 kj2 a0 (wrap64 (x3_1 + 1)) (wrap64 (x5_1 + 1)) (wrap64 (x5_1 + 1))) else (some false))) else (none)) else (none)) else (none)) = some r:=by rw [if_neg (show ¬ (false = true) by decide)] at H; exact H
       clear H
       have H:=H1
       clear H1
       by_cases c8 : 0 ≤ x4_1
       ·rw [if_pos c8] at H
        have c8b0:=eq_true c8
        have c8b1 : decide (0 ≤ x4_1) = true:=decide_eq_true c8
        clear c8
        by_cases c9 : x4_1 ≤ x5_1
        ·rw [if_pos c9] at H
         have c9b0:=eq_true c9
         have c9b1 : decide (x4_1 ≤ x5_1) = true:=decide_eq_true c9
         clear c9
         by_cases c10 : x5_1 ≤ (a0.size : Int)
         ·rw [if_pos c10] at H
          have c10b0:=eq_true c10
          have c10b1 : decide (x5_1 ≤ (a0.size : Int)) = true:=decide_eq_true c10
          clear c10
          replace H:=Option.bind_eq_some_iff.mp H
          obtain ⟨t203,A110,H⟩:=H
          replace H : (if t203 = true then (counterpaneref04_Right.l0 kj2 a0 (wrap64 (x3_1 + 1)) (wrap64 (x5_1 + 1)) (wrap64 (x5_1 + 1))) else (some false)) = some r:=H
          have A11:=Aside0.mk A110
          clear A110
          by_cases c12 : t203 = true
          ·subst c12
           have H1 : (counterpaneref04_Right.l0 kj2 a0 (wrap64 (x3_1 + 1)) (wrap64 (x5_1 + 1)) (wrap64 (x5_1 + 1))) = some r:=by rw [if_pos rfl] at H; exact H
           clear H
           have H:=H1
           clear H1
           have H':=Aside0.mk H
           clear H
           go_wp2_with (first | ((with_reducible refine gate_callee (f:=96) rfl ?_); refine goesL_ (some 26) rfl rfl Tryd.func96 (by kernel_rfl) rfl #[.string (a0.extract (x4_1 : Int).toNat (x5_1 : Int).toNat)] rfl (by (try simp only [List.map_toArray,List.map_cons,List.map_nil]); first | done | rfl | (simp only [List.length_drop,List.length_take]; rfl)) ?_; (with_reducible refine (counterpaneref04_part.calls kj2 (a0.extract (x4_1 : Int).toNat (x5_1 : Int).toNat) true _ A11.out).mono ?_); rintro e w' ⟨rfl,⟨nd,rfl⟩⟩; refine ⟨_,rfl,?_⟩))
           go_roundg kj2
           case measure => have:=HK1.out; have:=HJ2.out; omega
           case rel => exact ⟨(wrap64 (x3_1 + 1)),(wrap64 (x5_1 + 1)),(wrap64 (x5_1 + 1)),(by first | rfl | (simp; done) | (simp [*]; done)),(by first | rfl | (simp; done) | (simp [*]; done)),(by first | rfl | (simp; done) | (simp [*]; done)),H',⟨by have:=HK1.out; have:=HJ2.out; omega⟩,by repeat (first | exact Drawn0.refl _ | apply Drawn0.step)⟩
          ·replace c12:=Bool.eq_false_iff.mpr c12
           subst c12
           have H1 : (some false) = some r:=by rw [if_neg (show ¬ (false = true) by decide)] at H; exact H
           clear H
           have H:=H1
           clear H1
           obtain rfl:=Option.some.inj H
           go_wp2_with (first | ((with_reducible refine gate_callee (f:=96) rfl ?_); refine goesL_ (some 26) rfl rfl Tryd.func96 (by kernel_rfl) rfl #[.string (a0.extract (x4_1 : Int).toNat (x5_1 : Int).toNat)] rfl (by (try simp only [List.map_toArray,List.map_cons,List.map_nil]); first | done | rfl | (simp only [List.length_drop,List.length_take]; rfl)) ?_; (with_reducible refine (counterpaneref04_part.calls kj2 (a0.extract (x4_1 : Int).toNat (x5_1 : Int).toNat) false _ A11.out).mono ?_); rintro e w' ⟨rfl,⟨nd,rfl⟩⟩; refine ⟨_,rfl,?_⟩))
           go_ret
           exact ⟨by first | rfl | (simp; done) | (simp [*]; done) | (simp [show ∀ l : List UInt8,(l != []) = !l.isEmpty from fun l => by cases l <;> rfl]; done),by repeat (first | exact Drawn0.refl _ | apply Drawn0.step)⟩
         ·rw [if_neg c10] at H
          exact absurd H (by simp)
        ·rw [if_neg c9] at H
         exact absurd H (by simp)
       ·rw [if_neg c8] at H
        exact absurd H (by simp)
   ·rw [if_neg c2] at H
    have c2b0 : decide (x5_1 ≤ (a0.size : Int)) = false:=decide_eq_false c2
    clear c2
    obtain rfl:=Option.some.inj H
    go_wp2
    go_ret
    exact ⟨by first | rfl | (simp; done) | (simp [*]; done) | (simp [show ∀ l : List UInt8,(l != []) = !l.isEmpty from fun l => by cases l <;> rfl]; done),by repeat (first | exact Drawn0.refl _ | apply Drawn0.step)⟩

/-! ### counterpaneref05_Right: function 69 -/
mutual
def counterpaneref05_Right.l0 : Nat → List ByteArray → Int → Option (Bool)
 | 0,_,_ => none
 | k + 1,x0,x3 => if x3 < (x0.length : Int) then (counterpaneref05_Right.l1 k x0 x3 0) else (some true)
def counterpaneref05_Right.l1 : Nat → List ByteArray → Int → Int → Option (Bool)
 | 0,_,_,_ => none
 | k + 1,x0,x3,x4 => if 0 ≤ x3 then (if x3 < (x0.length : Int) then (if x4 < ((rdOf ByteArray.empty x0 x3).size : Int) then (if 0 ≤ x4 then (if (bt (rdOf ByteArray.empty x0 x3) x4) = 10 then (some false) else (counterpaneref05_Right.l1 k x0 x3 (wrap64 (x4 + 1)))) else (none)) else (counterpaneref05_Right.l0 k x0 (wrap64 (x3 + 1)))) else (none)) else (none)
end
def counterpaneref05_Right.f (k : Nat) (l0 : List ByteArray) : Option (Bool):=counterpaneref05_Right.l0 k l0 0
theorem counterpaneref05_Right.mono_l : ∀ k,(∀ y0 y1,LeO (counterpaneref05_Right.l0 k y0 y1) (counterpaneref05_Right.l0 (k + 1) y0 y1)) ∧ (∀ y0 y1 y2,LeO (counterpaneref05_Right.l1 k y0 y1 y2) (counterpaneref05_Right.l1 (k + 1) y0 y1 y2))
 | 0 => ⟨fun _ _ r h => by simp [counterpaneref05_Right.l0] at h,fun _ _ _ r h => by simp [counterpaneref05_Right.l1] at h⟩
 | k + 1 => by
  obtain ⟨ih0,ih1⟩:=counterpaneref05_Right.mono_l k
  refine ⟨?_,?_⟩
  ·intro y0 y1
   unfold counterpaneref05_Right.l0
   repeat' first
   | (with_reducible exact ih0 _ _)
   | (with_reducible exact ih1 _ _ _)
   | (with_reducible exact LeO.refl _)
   | (with_reducible exact LeO.none _)
   | (with_reducible refine LeO.ite ?_ ?_)
   | (with_reducible refine LeO.bind ?_ (fun _ => ?_))
   | exact ih0 _ _
   | exact ih1 _ _ _
   | exact LeO.none _
   | refine LeO.ite ?_ ?_
   | refine LeO.bind ?_ (fun _ => ?_)
  ·intro y0 y1 y2
   unfold counterpaneref05_Right.l1
   repeat' first
   | (with_reducible exact ih0 _ _)
   | (with_reducible exact ih1 _ _ _)
   | (with_reducible exact LeO.refl _)
   | (with_reducible exact LeO.none _)
   | (with_reducible refine LeO.ite ?_ ?_)
   | (with_reducible refine LeO.bind ?_ (fun _ => ?_))
   | exact ih0 _ _
   | exact ih1 _ _ _
   | exact LeO.none _
   | refine LeO.ite ?_ ?_
   | refine LeO.bind ?_ (fun _ => ?_)
theorem counterpaneref05_Right.mono : ∀ a0 k,LeO (counterpaneref05_Right.f k a0) (counterpaneref05_Right.f (k + 1) a0):=by
 intro a0 k
 obtain ⟨ih0,ih1⟩:=counterpaneref05_Right.mono_l k
 unfold counterpaneref05_Right.f
 repeat' first
   | (with_reducible exact ih0 _ _)
   | (with_reducible exact ih1 _ _ _)
   | (with_reducible exact LeO.refl _)
   | (with_reducible exact LeO.none _)
   | (with_reducible refine LeO.ite ?_ ?_)
   | (with_reducible refine LeO.bind ?_ (fun _ => ?_))
   | exact ih0 _ _
   | exact ih1 _ _ _
   | exact LeO.none _
   | refine LeO.ite ?_ ?_
   | refine LeO.bind ?_ (fun _ => ?_)
set_option maxHeartbeats 8000000 in
set_option maxRecDepth 100000 in
theorem counterpaneref05_Right.calls (k : Nat) (A0 : Option Addr) (c0 : Nat) (l0 : List ByteArray) (r : Bool) (w : World) (hr0 : Kd.C Kd.string w A0 l0.length l0) (hc0 : l0.length ≤ c0) (h : counterpaneref05_Right.f k l0 = some r) :
  Calls Tryd.prog 69 #[.slice A0 l0.length c0] w fun e w' => e = .returned (.bool r) ∧ Drawn0 w w':=by
 have HR0:=Aside0.mk hr0
 have HC0:=Aside0.mk hc0
 clear hr0 hc0
 have H : (counterpaneref05_Right.l0 k l0 0) = some r:=h
 clear h
 have H':=Aside0.mk H
 clear H
 go_enter Tryd.func69,Tryd.ntmps69
 go_wp2
 go_loopg [3] k (fun kq v3 w' => ∃ (x3_1 : Int),v3 = .int .i64 x3_1 ∧ Aside0 (counterpaneref05_Right.l0 kq l0 x3_1 = some r) ∧ Aside0 (kq ≤ k) ∧ Drawn0 w w')
 case atStart => exact ⟨(0),(by first | rfl | (simp; done) | (simp [*]; done)),H',⟨Nat.le_refl _⟩,by repeat (first | exact Drawn0.refl _ | apply Drawn0.step)⟩
 case round =>
  clear H'
  obtain ⟨x3_1,rfl,HA,HK1,⟨m1,rfl⟩⟩:=hrel
  cases gk with
  | zero => exact absurd HA.out (by simp [counterpaneref05_Right.l0])
  | succ k1 =>
   have H:=HA.out
   clear HA
   simp only [counterpaneref05_Right.l0] at H
   by_cases c2 : x3_1 < (l0.length : Int)
   ·rw [if_pos c2] at H
    have c2b0 : decide (x3_1 < (l0.length : Int)) = true:=decide_eq_true c2
    clear c2
    have H':=Aside0.mk H
    clear H
    go_wp2
    go_loopg [4] k1 (fun kq v4 w' => ∃ (x4_2 : Int),v4 = .int .i64 x4_2 ∧ Aside0 (counterpaneref05_Right.l1 kq l0 x3_1 x4_2 = some r) ∧ Aside0 (kq ≤ k1) ∧ Drawn0 w w')
    case atStart => exact ⟨(0),(by first | rfl | (simp; done) | (simp [*]; done)),H',⟨Nat.le_refl _⟩,by repeat (first | exact Drawn0.refl _ | apply Drawn0.step)⟩
    case round =>
     clear H'
     try clear c2
     try clear c2b0
     try clear p2
     obtain ⟨x4_2,rfl,HA,HK2,⟨m2,rfl⟩⟩:=hrel
     cases gk with
     | zero => exact absurd HA.out (by simp [counterpaneref05_Right.l1])
     | succ k2 =>
      have H:=HA.out
      clear HA
      simp only [counterpaneref05_Right.l1] at H
      by_cases c3 : 0 ≤ x3_1
      ·rw [if_pos c3] at H
       have c3b0 : decide (0 ≤ x3_1) = true:=decide_eq_true c3
       clear c3
       by_cases c4 : x3_1 < (l0.length : Int)
       ·rw [if_pos c4] at H
        have c4b0 : decide (x3_1 < (l0.length : Int)) = true:=decide_eq_true c4
        clear c4
        by_cases c5 : x4_2 < ((rdOf ByteArray.empty l0 x3_1).size : Int)
        ·rw [if_pos c5] at H
         have c5b0 : decide (x4_2 < ((rdOf ByteArray.empty l0 x3_1).size : Int)) = true:=decide_eq_true c5
         clear c5
         by_cases c6 : 0 ≤ x4_2
         ·rw [if_pos c6] at H
          have c6b0 : decide (0 ≤ x4_2) = true:=decide_eq_true c6
          clear c6
          by_cases c8 : (bt (rdOf ByteArray.empty l0 x3_1) x4_2) = 10
          ·rw [if_pos c8] at H
           have c8b0 : ((bt (rdOf ByteArray.empty l0 x3_1) x4_2) == 10) = true:=beq_iff_eq.mpr c8
           have c8b1 : ((bt (rdOf ByteArray.empty l0 x3_1) x4_2) != 10) = false:=bne_eq_false_iff_eq.mpr c8
           clear c8
           obtain rfl:=Option.some.inj H
           have p204 : 0 ≤ (x3_1 : Int):=of_decide_eq_true (by first | (with_reducible assumption) | assumption)
           have q204 : x3_1 < (l0.length : Int):=of_decide_eq_true (by first | (with_reducible assumption) | assumption)
           obtain ⟨ad204,e204,hx204_0⟩:=Kd.at_string HR0.out x3_1 p204 q204
           cases e204
           replace p204:=eq_true p204
           replace q204:=eq_true q204
           have p205 : 0 ≤ (x3_1 : Int):=of_decide_eq_true (by first | (with_reducible assumption) | assumption)
           have q205 : x3_1 < (l0.length : Int):=of_decide_eq_true (by first | (with_reducible assumption) | assumption)
           obtain ⟨ad205,e205,hx205_0⟩:=Kd.at_string HR0.out x3_1 p205 q205
           obtain rfl : ad204 = ad205:=(by injection e205)
           replace p205:=eq_true p205
           replace q205:=eq_true q205
           have p7 : 0 ≤ (x4_2 : Int):=of_decide_eq_true (by first | (with_reducible assumption) | assumption)
           have q7 : x4_2 < ((rdOf ByteArray.empty l0 x3_1).size : Int):=of_decide_eq_true (by first | (with_reducible assumption) | assumption)
           have hx7:=bt_at (rdOf ByteArray.empty l0 x3_1) x4_2
           replace p7:=eq_true p7
           replace q7:=eq_true q7
           go_wp2
           go_ret
           exact ⟨by first | rfl | (simp; done) | (simp [*]; done) | (simp [show ∀ l : List UInt8,(l != []) = !l.isEmpty from fun l => by cases l <;> rfl]; done),by repeat (first | exact Drawn0.refl _ | apply Drawn0.step)⟩
          ·rw [if_neg c8] at H
           have c8b0 : ((bt (rdOf ByteArray.empty l0 x3_1) x4_2) == 10) = false:=beq_eq_false_iff_ne.mpr c8
           have c8b1 : ((bt (rdOf ByteArray.empty l0 x3_1) x4_2) != 10) = true:=bne_iff_ne.mpr c8
           have H':=Aside0.mk H
           clear H
           have p204 : 0 ≤ (x3_1 : Int):=of_decide_eq_true (by first | (with_reducible assumption) | assumption)
           have q204 : x3_1 < (l0.length : Int):=of_decide_eq_true (by first | (with_reducible assumption) | assumption)
           obtain ⟨ad204,e204,hx204_0⟩:=Kd.at_string HR0.out x3_1 p204 q204
           cases e204
           replace p204:=eq_true p204
           replace q204:=eq_true q204
           have p205 : 0 ≤ (x3_1 : Int):=of_decide_eq_true (by first | (with_reducible assumption) | assumption)
           have q205 : x3_1 < (l0.length : Int):=of_decide_eq_true (by first | (with_reducible assumption) | assumption)
           obtain ⟨ad205,e205,hx205_0⟩:=Kd.at_string HR0.out x3_1 p205 q205
           obtain rfl : ad204 = ad205:=(by injection e205)
           replace p205:=eq_true p205
           replace q205:=eq_true q205
           have p7 : 0 ≤ (x4_2 : Int):=of_decide_eq_true (by first | (with_reducible assumption) | assumption)
           have q7 : x4_2 < ((rdOf ByteArray.empty l0 x3_1).size : Int):=of_decide_eq_true (by first | (with_reducible assumption) | assumption)
           have hx7:=bt_at (rdOf ByteArray.empty l0 x3_1) x4_2
           replace p7:=eq_true p7
           replace q7:=eq_true q7
           go_wp2
           go_roundg k2
           case measure => have:=HK1.out; have:=HK2.out; omega
           case rel => exact ⟨(wrap64 (x4_2 + 1)),(by first | rfl | (simp; done) | (simp [*]; done)),H',⟨by have:=HK1.out; have:=HK2.out; omega⟩,by repeat (first | exact Drawn0.refl _ | apply Drawn0.step)⟩
         ·rw [if_neg c6] at H
          exact absurd H (by simp)
        ·rw [if_neg c5] at H
         have c5b0 : decide (x4_2 < ((rdOf ByteArray.empty l0 x3_1).size : Int)) = false:=decide_eq_false c5
         clear c5
         have H':=Aside0.mk H
         clear H
         have p204 : 0 ≤ (x3_1 : Int):=of_decide_eq_true (by first | (with_reducible assumption) | assumption)
         have q204 : x3_1 < (l0.length : Int):=of_decide_eq_true (by first | (with_reducible assumption) | assumption)
         obtain ⟨ad204,e204,hx204_0⟩:=Kd.at_string HR0.out x3_1 p204 q204
         cases e204
         replace p204:=eq_true p204
         replace q204:=eq_true q204
         go_wp2
         go_roundg k2
         case measure => have:=HK1.out; have:=HK2.out; omega
         case rel => exact ⟨(wrap64 (x3_1 + 1)),(by first | rfl | (simp; done) | (simp [*]; done)),H',⟨by have:=HK1.out; have:=HK2.out; omega⟩,by repeat (first | exact Drawn0.refl _ | apply Drawn0.step)⟩
       ·rw [if_neg c4] at H
        exact absurd H (by simp)
      ·rw [if_neg c3] at H
       exact absurd H (by simp)
   ·rw [if_neg c2] at H
    have c2b0 : decide (x3_1 < (l0.length : Int)) = false:=decide_eq_false c2
    clear c2
    obtain rfl:=Option.some.inj H
    go_wp2
    go_ret
    exact ⟨by first | rfl | (simp; done) | (simp [*]; done) | (simp [show ∀ l : List UInt8,(l != []) = !l.isEmpty from fun l => by cases l <;> rfl]; done),by repeat (first | exact Drawn0.refl _ | apply Drawn0.step)⟩

/-! ### counterpaneref05_in: function 109 -/
def counterpaneref05_in.f (a0 : Int) : Option (Bool):=if a0 = 95 then (some true) else (if a0 ≥ 97 then (if a0 ≤ 122 then (some true) else (if a0 ≥ 65 then (if a0 ≤ 90 then (some true) else (if a0 ≥ 48 then (some (decide (a0 ≤ 57))) else (some false))) else (if a0 ≥ 48 then (some (decide (a0 ≤ 57))) else (some false)))) else (if a0 ≥ 65 then (if a0 ≤ 90 then (some true) else (if a0 ≥ 48 then (some (decide (a0 ≤ 57))) else (some false))) else (if a0 ≥ 48 then (some (decide (a0 ≤ 57))) else (some false))))
set_option maxHeartbeats 8000000 in
set_option maxRecDepth 100000 in
theorem counterpaneref05_in.calls (a0 : Int) (r : Bool) (w : World) (h : counterpaneref05_in.f a0 = some r) :
  Calls Tryd.prog 109 #[.int .u8 a0] w fun e w' => e = .returned (.bool r) ∧ Drawn0 w w':=by
 have H : (if a0 = 95 then (some true) else (if a0 ≥ 97 then (if a0 ≤ 122 then (some true) else (if a0 ≥ 65 then (if a0 ≤ 90 then (some true) else (if a0 ≥ 48 then (some (decide (a0 ≤ 57))) else (some false))) else (if a0 ≥ 48 then (some (decide (a0 ≤ 57))) else (some false)))) else (if a0 ≥ 65 then (if a0 ≤ 90 then (some true) else (if a0 ≥ 48 then (some (decide (a0 ≤ 57))) else (some false))) else (if a0 ≥ 48 then (some (decide (a0 ≤ 57))) else (some false))))) = some r:=h
 clear h
 by_cases c2 : a0 = 95
 ·rw [if_pos c2] at H
  have c2b0 : (a0 == 95) = true:=beq_iff_eq.mpr c2
  have c2b1 : (a0 != 95) = false:=bne_eq_false_iff_eq.mpr c2
  clear c2
  obtain rfl:=Option.some.inj H
  go_enter Tryd.func109,Tryd.ntmps109
  go_wp2
  go_ret
  exact ⟨by first | rfl | (simp; done) | (simp [*]; done) | (simp [show ∀ l : List UInt8,(l != []) = !l.isEmpty from fun l => by cases l <;> rfl]; done),by repeat (first | exact Drawn0.refl _ | apply Drawn0.step)⟩
 ·rw [if_neg c2] at H
  have c2b0 : (a0 == 95) = false:=beq_eq_false_iff_ne.mpr c2
  have c2b1 : (a0 != 95) = true:=bne_iff_ne.mpr c2
  by_cases c3 : a0 ≥ 97
  ·rw [if_pos c3] at H
   have c3b0 : decide (97 ≤ a0) = true:=decide_eq_true c3
   clear c3
   by_cases c4 : a0 ≤ 122
   ·rw [if_pos c4] at H
    have c4b0 : decide (a0 ≤ 122) = true:=decide_eq_true c4
    clear c4
    obtain rfl:=Option.some.inj H
    go_enter Tryd.func109,Tryd.ntmps109
    go_wp2
    go_ret
    exact ⟨by first | rfl | (simp; done) | (simp [*]; done) | (simp [show ∀ l : List UInt8,(l != []) = !l.isEmpty from fun l => by cases l <;> rfl]; done),by repeat (first | exact Drawn0.refl _ | apply Drawn0.step)⟩
   ·rw [if_neg c4] at H
    have c4b0 : decide (a0 ≤ 122) = false:=decide_eq_false c4
    clear c4
    by_cases c5 : a0 ≥ 65
    ·rw [if_pos c5] at H
     have c5b0 : decide (65 ≤ a0) = true:=decide_eq_true c5
     clear c5
     by_cases c6 : a0 ≤ 90
     ·rw [if_pos c6] at H
      have c6b0 : decide (a0 ≤ 90) = true:=decide_eq_true c6
      clear c6
      obtain rfl:=Option.some.inj H
      go_enter Tryd.func109,Tryd.ntmps109
      go_wp2
      go_ret
      exact ⟨by first | rfl | (simp; done) | (simp [*]; done) | (simp [show ∀ l : List UInt8,(l != []) = !l.isEmpty from fun l => by cases l <;> rfl]; done),by repeat (first | exact Drawn0.refl _ | apply Drawn0.step)⟩
     ·rw [if_neg c6] at H
      have c6b0 : decide (a0 ≤ 90) = false:=decide_eq_false c6
      clear c6
      by_cases c7 : a0 ≥ 48
      ·rw [if_pos c7] at H
       have c7b0 : decide (48 ≤ a0) = true:=decide_eq_true c7
       clear c7
       obtain rfl:=Option.some.inj H
       go_enter Tryd.func109,Tryd.ntmps109
       go_wp2
       go_ret
       exact ⟨by first | rfl | (simp; done) | (simp [*]; done) | (simp [show ∀ l : List UInt8,(l != []) = !l.isEmpty from fun l => by cases l <;> rfl]; done),by repeat (first | exact Drawn0.refl _ | apply Drawn0.step)⟩
      ·rw [if_neg c7] at H
       have c7b0 : decide (48 ≤ a0) = false:=decide_eq_false c7
       clear c7
       obtain rfl:=Option.some.inj H
       go_enter Tryd.func109,Tryd.ntmps109
       go_wp2
       go_ret
       exact ⟨by first | rfl | (simp; done) | (simp [*]; done) | (simp [show ∀ l : List UInt8,(l != []) = !l.isEmpty from fun l => by cases l <;> rfl]; done),by repeat (first | exact Drawn0.refl _ | apply Drawn0.step)⟩
    ·rw [if_neg c5] at H
     have c5b0 : decide (65 ≤ a0) = false:=decide_eq_false c5
     clear c5
     by_cases c8 : a0 ≥ 48
     ·rw [if_pos c8] at H
      have c8b0 : decide (48 ≤ a0) = true:=decide_eq_true c8
      clear c8
      obtain rfl:=Option.some.inj H
      go_enter Tryd.func109,Tryd.ntmps109
      go_wp2
      go_ret
      exact ⟨by first | rfl | (simp; done) | (simp [*]; done) | (simp [show ∀ l : List UInt8,(l != []) = !l.isEmpty from fun l => by cases l <;> rfl]; done),by repeat (first | exact Drawn0.refl _ | apply Drawn0.step)⟩
     ·rw [if_neg c8] at H
      have c8b0 : decide (48 ≤ a0) = false:=decide_eq_false c8
      clear c8
      obtain rfl:=Option.some.inj H
      go_enter Tryd.func109,Tryd.ntmps109
      go_wp2
      go_ret
      exact ⟨by first | rfl | (simp; done) | (simp [*]; done) | (simp [show ∀ l : List UInt8,(l != []) = !l.isEmpty from fun l => by cases l <;> rfl]; done),by repeat (first | exact Drawn0.refl _ | apply Drawn0.step)⟩
  ·rw [if_neg c3] at H
   have c3b0 : decide (97 ≤ a0) = false:=decide_eq_false c3
   clear c3
   by_cases c9 : a0 ≥ 65
   ·rw [if_pos c9] at H
    have c9b0 : decide (65 ≤ a0) = true:=decide_eq_true c9
    clear c9
    by_cases c10 : a0 ≤ 90
    ·rw [if_pos c10] at H
     have c10b0 : decide (a0 ≤ 90) = true:=decide_eq_true c10
     clear c10
     obtain rfl:=Option.some.inj H
     go_enter Tryd.func109,Tryd.ntmps109
     go_wp2
     go_ret
     exact ⟨by first | rfl | (simp; done) | (simp [*]; done) | (simp [show ∀ l : List UInt8,(l != []) = !l.isEmpty from fun l => by cases l <;> rfl]; done),by repeat (first | exact Drawn0.refl _ | apply Drawn0.step)⟩
    ·rw [if_neg c10] at H
     have c10b0 : decide (a0 ≤ 90) = false:=decide_eq_false c10
     clear c10
     by_cases c11 : a0 ≥ 48
     ·rw [if_pos c11] at H
      have c11b0 : decide (48 ≤ a0) = true:=decide_eq_true c11
      clear c11
      obtain rfl:=Option.some.inj H
      go_enter Tryd.func109,Tryd.ntmps109
      go_wp2
      go_ret
      exact ⟨by first | rfl | (simp; done) | (simp [*]; done) | (simp [show ∀ l : List UInt8,(l != []) = !l.isEmpty from fun l => by cases l <;> rfl]; done),by repeat (first | exact Drawn0.refl _ | apply Drawn0.step)⟩
     ·rw [if_neg c11] at H
      have c11b0 : decide (48 ≤ a0) = false:=decide_eq_false c11
      clear c11
      obtain rfl:=Option.some.inj H
      go_enter Tryd.func109,Tryd.ntmps109
      go_wp2
      go_ret
      exact ⟨by first | rfl | (simp; done) | (simp [*]; done) | (simp [show ∀ l : List UInt8,(l != []) = !l.isEmpty from fun l => by cases l <;> rfl]; done),by repeat (first | exact Drawn0.refl _ | apply Drawn0.step)⟩
   ·rw [if_neg c9] at H
    have c9b0 : decide (65 ≤ a0) = false:=decide_eq_false c9
    clear c9
    by_cases c12 : a0 ≥ 48
    ·rw [if_pos c12] at H
     have c12b0 : decide (48 ≤ a0) = true:=decide_eq_true c12
     clear c12
     obtain rfl:=Option.some.inj H
     go_enter Tryd.func109,Tryd.ntmps109
     go_wp2
     go_ret
     exact ⟨by first | rfl | (simp; done) | (simp [*]; done) | (simp [show ∀ l : List UInt8,(l != []) = !l.isEmpty from fun l => by cases l <;> rfl]; done),by repeat (first | exact Drawn0.refl _ | apply Drawn0.step)⟩
    ·rw [if_neg c12] at H
     have c12b0 : decide (48 ≤ a0) = false:=decide_eq_false c12
     clear c12
     obtain rfl:=Option.some.inj H
     go_enter Tryd.func109,Tryd.ntmps109
     go_wp2
     go_ret
     exact ⟨by first | rfl | (simp; done) | (simp [*]; done) | (simp [show ∀ l : List UInt8,(l != []) = !l.isEmpty from fun l => by cases l <;> rfl]; done),by repeat (first | exact Drawn0.refl _ | apply Drawn0.step)⟩

/-! ### counterpaneref05_Token: function 90 -/
def counterpaneref05_Token.l0 : Nat → ByteArray → Int → Option (Bool)
 | 0,_,_ => none
 | k + 1,x0,x3 => if x3 < (x0.size : Int) then (if 0 ≤ x3 then ((counterpaneref05_in.f (bt x0 x3)).bind fun t206 => (if t206 = true then (counterpaneref05_Token.l0 k x0 (wrap64 (x3 + 1))) else (some false))) else (none)) else (some (decide ((x0.size : Int) > 0)))
def counterpaneref05_Token.f (k : Nat) (a0 : ByteArray) : Option (Bool):=counterpaneref05_Token.l0 k a0 0
theorem counterpaneref05_Token.mono_l : ∀ k,(∀ y0 y1,LeO (counterpaneref05_Token.l0 k y0 y1) (counterpaneref05_Token.l0 (k + 1) y0 y1))
 | 0 => fun _ _ r h => by simp [counterpaneref05_Token.l0] at h
 | k + 1 => by
  have ih0:=counterpaneref05_Token.mono_l k
  ·intro y0 y1
   unfold counterpaneref05_Token.l0
   repeat' first
   | (with_reducible exact ih0 _ _)
   | (with_reducible exact LeO.refl _)
   | (with_reducible exact LeO.none _)
   | (with_reducible refine LeO.ite ?_ ?_)
   | (with_reducible refine LeO.bind ?_ (fun _ => ?_))
   | exact ih0 _ _
   | exact LeO.none _
   | refine LeO.ite ?_ ?_
   | refine LeO.bind ?_ (fun _ => ?_)
theorem counterpaneref05_Token.mono : ∀ a0 k,LeO (counterpaneref05_Token.f k a0) (counterpaneref05_Token.f (k + 1) a0):=by
 intro a0 k
 have ih0:=counterpaneref05_Token.mono_l k
 unfold counterpaneref05_Token.f
 repeat' first
   | (with_reducible exact ih0 _ _)
   | (with_reducible exact LeO.refl _)
   | (with_reducible exact LeO.none _)
   | (with_reducible refine LeO.ite ?_ ?_)
   | (with_reducible refine LeO.bind ?_ (fun _ => ?_))
   | exact ih0 _ _
   | exact LeO.none _
   | refine LeO.ite ?_ ?_
   | refine LeO.bind ?_ (fun _ => ?_)
set_option maxHeartbeats 8000000 in
set_option maxRecDepth 100000 in
theorem counterpaneref05_Token.calls (k : Nat) (a0 : ByteArray) (r : Bool) (w : World) (h : counterpaneref05_Token.f k a0 = some r) :
  Calls Tryd.prog 90 #[.string a0] w fun e w' => e = .returned (.bool r) ∧ Drawn0 w w':=by
 have H : (counterpaneref05_Token.l0 k a0 0) = some r:=h
 clear h
 have H':=Aside0.mk H
 clear H
 go_enter Tryd.func90,Tryd.ntmps90
 go_wp2
 go_loopg [3] k (fun kq v3 w' => ∃ (x3_1 : Int),v3 = .int .i64 x3_1 ∧ Aside0 (counterpaneref05_Token.l0 kq a0 x3_1 = some r) ∧ Aside0 (kq ≤ k) ∧ Drawn0 w w')
 case atStart => exact ⟨(0),(by first | rfl | (simp; done) | (simp [*]; done)),H',⟨Nat.le_refl _⟩,by repeat (first | exact Drawn0.refl _ | apply Drawn0.step)⟩
 case round =>
  clear H'
  obtain ⟨x3_1,rfl,HA,HK1,⟨m1,rfl⟩⟩:=hrel
  cases gk with
  | zero => exact absurd HA.out (by simp [counterpaneref05_Token.l0])
  | succ k1 =>
   have H:=HA.out
   clear HA
   simp only [counterpaneref05_Token.l0] at H
   by_cases c2 : x3_1 < (a0.size : Int)
   ·rw [if_pos c2] at H
    have c2b0 : decide (x3_1 < (a0.size : Int)) = true:=decide_eq_true c2
    clear c2
    by_cases c3 : 0 ≤ x3_1
    ·rw [if_pos c3] at H
     have c3b0 : decide (0 ≤ x3_1) = true:=decide_eq_true c3
     clear c3
     replace H:=Option.bind_eq_some_iff.mp H
     obtain ⟨t206,A50,H⟩:=H
     replace H : (if t206 = true then (counterpaneref05_Token.l0 k1 a0 (wrap64 (x3_1 + 1))) else (some false)) = some r:=H
     have A5:=Aside0.mk A50
     clear A50
     by_cases c6 : t206 = true
     ·subst c6
      have H1 : (counterpaneref05_Token.l0 k1 a0 (wrap64 (x3_1 + 1))) = some r:=by rw [if_pos rfl] at H; exact H
      clear H
      have H:=H1
      clear H1
      have H':=Aside0.mk H
      clear H
      have p4 : 0 ≤ (x3_1 : Int):=of_decide_eq_true (by first | (with_reducible assumption) | assumption)
      have q4 : x3_1 < (a0.size : Int):=of_decide_eq_true (by first | (with_reducible assumption) | assumption)
      have hx4:=bt_at a0 x3_1
      replace p4:=eq_true p4
      replace q4:=eq_true q4
      go_wp2_with (first | ((with_reducible refine gate_callee (f:=109) rfl ?_); refine goesL_ (some 13) rfl rfl Tryd.func109 (by kernel_rfl) rfl #[.int .u8 (bt a0 x3_1)] rfl (by (try simp only [List.map_toArray,List.map_cons,List.map_nil]); first | done | rfl | (simp only [List.length_drop,List.length_take]; rfl)) ?_; (with_reducible refine (counterpaneref05_in.calls (bt a0 x3_1) true _ A5.out).mono ?_); rintro e w' ⟨rfl,⟨nd,rfl⟩⟩; refine ⟨_,rfl,?_⟩))
      go_roundg k1
      case measure => have:=HK1.out; omega
      case rel => exact ⟨(wrap64 (x3_1 + 1)),(by first | rfl | (simp; done) | (simp [*]; done)),H',⟨by have:=HK1.out; omega⟩,by repeat (first | exact Drawn0.refl _ | apply Drawn0.step)⟩
     ·replace c6:=Bool.eq_false_iff.mpr c6
      subst c6
      have H1 : (some false) = some r:=by rw [if_neg (show ¬ (false = true) by decide)] at H; exact H
      clear H
      have H:=H1
      clear H1
      obtain rfl:=Option.some.inj H
      have p4 : 0 ≤ (x3_1 : Int):=of_decide_eq_true (by first | (with_reducible assumption) | assumption)
      have q4 : x3_1 < (a0.size : Int):=of_decide_eq_true (by first | (with_reducible assumption) | assumption)
      have hx4:=bt_at a0 x3_1
      replace p4:=eq_true p4
      replace q4:=eq_true q4
      go_wp2_with (first | ((with_reducible refine gate_callee (f:=109) rfl ?_); refine goesL_ (some 13) rfl rfl Tryd.func109 (by kernel_rfl) rfl #[.int .u8 (bt a0 x3_1)] rfl (by (try simp only [List.map_toArray,List.map_cons,List.map_nil]); first | done | rfl | (simp only [List.length_drop,List.length_take]; rfl)) ?_; (with_reducible refine (counterpaneref05_in.calls (bt a0 x3_1) false _ A5.out).mono ?_); rintro e w' ⟨rfl,⟨nd,rfl⟩⟩; refine ⟨_,rfl,?_⟩))
      go_ret
      exact ⟨by first | rfl | (simp; done) | (simp [*]; done) | (simp [show ∀ l : List UInt8,(l != []) = !l.isEmpty from fun l => by cases l <;> rfl]; done),by repeat (first | exact Drawn0.refl _ | apply Drawn0.step)⟩
    ·rw [if_neg c3] at H
     exact absurd H (by simp)
   ·rw [if_neg c2] at H
    have c2b0 : decide (x3_1 < (a0.size : Int)) = false:=decide_eq_false c2
    clear c2
    obtain rfl:=Option.some.inj H
    go_wp2
    go_ret
    exact ⟨by first | rfl | (simp; done) | (simp [*]; done) | (simp [show ∀ l : List UInt8,(l != []) = !l.isEmpty from fun l => by cases l <;> rfl]; done),by repeat (first | exact Drawn0.refl _ | apply Drawn0.step)⟩

end Go.Proofs.YthhohbidjhcjeaaDoor.Q
