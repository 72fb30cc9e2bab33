/- Two rows of texts, held against each other: printed by a program of this place (wip/tools/myprint.py) out of the translation; Lean checks it. -/
import Derived.Test.YthhohbidjhcjeaaDoorVM1
import Derived.Test.YthhohbidjhcjeaaDoorVM3
import Derived.Maps.AppendAt
import Derived.Lib.SliceRun
import Derived.Shelf.Spec.SlicesGrow
namespace Go.Proofs.YthhohbidjhcjeaaDoor.Q
open Go.RowKit Go.Proofs.YthhohbidjhcjeaaDoorW.PrintWords Go.Proofs.YthhohbidjhcjeaaDoorW.PrintLast Go.Proofs.YthhohbidjhcjeaaDoorW.PrintMore
set_option linter.unusedVariables false
set_option linter.unusedSimpArgs false
/-! ### slices_Equal_string_string: function 116 -/
def slices_Equal_string_string.l0 : Nat → List ByteArray → List ByteArray → Int → Int → Option (Bool)
 | 0,_,_,_,_ => none
 | k + 1,x0,x1,x12,x13 => if x13 < x12 then (if 0 ≤ x13 then (if x13 < (x0.length : Int) then (if x13 < (x1.length : Int) then (if (rdOf ByteArray.empty x0 x13).toList = (rdOf ByteArray.empty x1 x13).toList then (slices_Equal_string_string.l0 k x0 x1 x12 (wrap64 (x13 + 1))) else (some false)) else (none)) else (none)) else (none)) else (some true)
def slices_Equal_string_string.f (k : Nat) (l0 : List ByteArray) (l1 : List ByteArray) : Option (Bool):=if (l0.length : Int) = (l1.length : Int) then (slices_Equal_string_string.l0 k l0 l1 (l0.length : Int) 0) else (some false)
theorem slices_Equal_string_string.mono_l : ∀ k,(∀ y0 y1 y2 y3,LeO (slices_Equal_string_string.l0 k y0 y1 y2 y3) (slices_Equal_string_string.l0 (k + 1) y0 y1 y2 y3))
 | 0 => fun _ _ _ _ r h => by simp [slices_Equal_string_string.l0] at h
 | k + 1 => by
  have ih0:=slices_Equal_string_string.mono_l k
  ·intro y0 y1 y2 y3
   unfold slices_Equal_string_string.l0
   repeat' first
   | (with_reducible exact ih0 _ _ _ _)
   | (with_reducible exact LeO.refl _)
   | (with_reducible exact LeO.none _)
   | (with_reducible refine LeO.ite ?_ ?_)
   | (with_reducible refine LeO.bind ?_ (fun _ => ?_))
   | exact ih0 _ _ _ _
   | exact LeO.none _
   | refine LeO.ite ?_ ?_
   | refine LeO.bind ?_ (fun _ => ?_)
theorem slices_Equal_string_string.mono : ∀ a0 a1 k,LeO (slices_Equal_string_string.f k a0 a1) (slices_Equal_string_string.f (k + 1) a0 a1):=by
 intro a0 a1 k
 have ih0:=slices_Equal_string_string.mono_l k
 unfold slices_Equal_string_string.f
 repeat' first
   | (with_reducible exact ih0 _ _ _ _)
   | (with_reducible exact LeO.refl _)
   | (with_reducible exact LeO.none _)
   | (with_reducible refine LeO.ite ?_ ?_)
   | (with_reducible refine LeO.bind ?_ (fun _ => ?_))
   | exact ih0 _ _ _ _
   | exact LeO.none _
   | refine LeO.ite ?_ ?_
   | refine LeO.bind ?_ (fun _ => ?_)
set_option maxHeartbeats 8000000 in
set_option maxRecDepth 100000 in
theorem slices_Equal_string_string.calls (k : Nat) (A0 : Option Addr) (c0 : Nat) (l0 : List ByteArray) (A1 : Option Addr) (c1 : Nat) (l1 : List ByteArray) (r : Bool) (w : World) (hr0 : Kd.C Kd.string w A0 l0.length l0) (hc0 : l0.length ≤ c0) (hr1 : Kd.C Kd.string w A1 l1.length l1) (hc1 : l1.length ≤ c1) (h : slices_Equal_string_string.f k l0 l1 = some r) :
  Calls Tryd.prog 116 #[.slice A0 l0.length c0,.slice A1 l1.length c1] w fun e w' => e = .returned (.bool r) ∧ Drawn0 w w':=by
 have HR0:=Aside0.mk hr0
 have HC0:=Aside0.mk hc0
 clear hr0 hc0
 have HR1:=Aside0.mk hr1
 have HC1:=Aside0.mk hc1
 clear hr1 hc1
 have H : (if (l0.length : Int) = (l1.length : Int) then (slices_Equal_string_string.l0 k l0 l1 (l0.length : Int) 0) else (some false)) = some r:=h
 clear h
 by_cases c3 : (l0.length : Int) = (l1.length : Int)
 ·rw [if_pos c3] at H
  have c3b0 : ((l0.length : Int) == (l1.length : Int)) = true:=beq_iff_eq.mpr c3
  have c3b1 : ((l0.length : Int) != (l1.length : Int)) = false:=bne_eq_false_iff_eq.mpr c3
  have c3b2 : (l0.length == l1.length) = true:=by first | simpa using c3 | (simp at c3 ⊢; omega)
  clear c3
  have H':=Aside0.mk H
  clear H
  go_enter Tryd.func116,Tryd.ntmps116
  go_wp2
  repeat (go_quiet (fail); try go_wp2)
  go_loopg [13] k (fun kq v13 w' => ∃ (x13_1 : Int),v13 = .int .i64 x13_1 ∧ Aside0 (slices_Equal_string_string.l0 kq l0 l1 (l0.length : Int) x13_1 = some r) ∧ Aside0 (kq ≤ k) ∧ Drawn0 w w')
  case atStart => exact ⟨(0),(by first | rfl | (simp; done) | (simp [*]; done)),H',⟨Nat.le_refl _⟩,by repeat (first | exact Drawn0.refl _ | apply Drawn0.step)⟩
  case round =>
   clear H'
   try clear c1
   try clear p2
   try clear c3
   try clear c3b0
   try clear c3b1
   try clear c3b2
   obtain ⟨x13_1,rfl,HA,HK1,⟨m1,rfl⟩⟩:=hrel
   cases gk with
   | zero => exact absurd HA.out (by simp [slices_Equal_string_string.l0])
   | succ k1 =>
    have H:=HA.out
    clear HA
    simp only [slices_Equal_string_string.l0] at H
    by_cases c4 : x13_1 < (l0.length : Int)
    ·rw [if_pos c4] at H
     have c4b0 : decide (x13_1 < (l0.length : Int)) = true:=decide_eq_true c4
     clear c4
     by_cases c5 : 0 ≤ x13_1
     ·rw [if_pos c5] at H
      have c5b0 : decide (0 ≤ x13_1) = true:=decide_eq_true c5
      clear c5
      by_cases c6 : x13_1 < (l0.length : Int)
      ·rw [if_pos c6] at H
       have c6b0 : decide (x13_1 < (l0.length : Int)) = true:=decide_eq_true c6
       clear c6
       by_cases c7 : x13_1 < (l1.length : Int)
       ·rw [if_pos c7] at H
        have c7b0 : decide (x13_1 < (l1.length : Int)) = true:=decide_eq_true c7
        clear c7
        by_cases c8 : (rdOf ByteArray.empty l0 x13_1).toList = (rdOf ByteArray.empty l1 x13_1).toList
        ·rw [if_pos c8] at H
         have c8b0 : ((rdOf ByteArray.empty l0 x13_1).toList == (rdOf ByteArray.empty l1 x13_1).toList) = true:=beq_iff_eq.mpr c8
         have c8b1 : ((rdOf ByteArray.empty l0 x13_1).toList != (rdOf ByteArray.empty l1 x13_1).toList) = false:=bne_eq_false_iff_eq.mpr c8
         clear c8
         have H':=Aside0.mk H
         clear H
         have p159 : 0 ≤ (x13_1 : Int):=of_decide_eq_true (by first | (with_reducible assumption) | assumption)
         have q159 : x13_1 < (l0.length : Int):=of_decide_eq_true (by first | (with_reducible assumption) | assumption)
         obtain ⟨ad159,e159,hx159_0⟩:=Kd.at_string HR0.out x13_1 p159 q159
         cases e159
         replace p159:=eq_true p159
         replace q159:=eq_true q159
         have p160 : 0 ≤ (x13_1 : Int):=of_decide_eq_true (by first | (with_reducible assumption) | assumption)
         have q160 : x13_1 < (l1.length : Int):=of_decide_eq_true (by first | (with_reducible assumption) | assumption)
         obtain ⟨ad160,e160,hx160_0⟩:=Kd.at_string HR1.out x13_1 p160 q160
         cases e160
         replace p160:=eq_true p160
         replace q160:=eq_true q160
         go_wp2
         repeat (go_quiet (fail); try go_wp2)
         go_roundg k1
         case measure => have:=HK1.out; omega
         case rel => exact ⟨(wrap64 (x13_1 + 1)),(by first | rfl | (simp; done) | (simp [*]; done)),H',⟨by have:=HK1.out; omega⟩,by repeat (first | exact Drawn0.refl _ | apply Drawn0.step)⟩
        ·rw [if_neg c8] at H
         have c8b0 : ((rdOf ByteArray.empty l0 x13_1).toList == (rdOf ByteArray.empty l1 x13_1).toList) = false:=beq_eq_false_iff_ne.mpr c8
         have c8b1 : ((rdOf ByteArray.empty l0 x13_1).toList != (rdOf ByteArray.empty l1 x13_1).toList) = true:=bne_iff_ne.mpr c8
         obtain rfl:=Option.some.inj H
         have p159 : 0 ≤ (x13_1 : Int):=of_decide_eq_true (by first | (with_reducible assumption) | assumption)
         have q159 : x13_1 < (l0.length : Int):=of_decide_eq_true (by first | (with_reducible assumption) | assumption)
         obtain ⟨ad159,e159,hx159_0⟩:=Kd.at_string HR0.out x13_1 p159 q159
         cases e159
         replace p159:=eq_true p159
         replace q159:=eq_true q159
         have p160 : 0 ≤ (x13_1 : Int):=of_decide_eq_true (by first | (with_reducible assumption) | assumption)
         have q160 : x13_1 < (l1.length : Int):=of_decide_eq_true (by first | (with_reducible assumption) | assumption)
         obtain ⟨ad160,e160,hx160_0⟩:=Kd.at_string HR1.out x13_1 p160 q160
         cases e160
         replace p160:=eq_true p160
         replace q160:=eq_true q160
         go_wp2
         repeat (go_quiet (fail); try go_wp2)
         go_ret
         exact ⟨by first | rfl | (simp; done) | (simp [*]; done) | (simp [show ∀ l : List UInt8,(l != []) = !l.isEmpty from fun l => by cases l <;> rfl]; done),by repeat (first | exact Drawn0.refl _ | apply Drawn0.step)⟩
       ·rw [if_neg c7] at H
        exact absurd H (by simp)
      ·rw [if_neg c6] at H
       exact absurd H (by simp)
     ·rw [if_neg c5] at H
      exact absurd H (by simp)
    ·rw [if_neg c4] at H
     have c4b0 : decide (x13_1 < (l0.length : Int)) = false:=decide_eq_false c4
     clear c4
     obtain rfl:=Option.some.inj H
     go_wp2
     repeat (go_quiet (fail); try go_wp2)
     go_ret
     exact ⟨by first | rfl | (simp; done) | (simp [*]; done) | (simp [show ∀ l : List UInt8,(l != []) = !l.isEmpty from fun l => by cases l <;> rfl]; done),by repeat (first | exact Drawn0.refl _ | apply Drawn0.step)⟩
 ·rw [if_neg c3] at H
  have c3b0 : ((l0.length : Int) == (l1.length : Int)) = false:=beq_eq_false_iff_ne.mpr c3
  have c3b1 : ((l0.length : Int) != (l1.length : Int)) = true:=bne_iff_ne.mpr c3
  have c3b2 : (l0.length == l1.length) = false:=by first | simpa using c3 | (simp at c3 ⊢; omega)
  obtain rfl:=Option.some.inj H
  go_enter Tryd.func116,Tryd.ntmps116
  go_wp2
  repeat (go_quiet (fail); try go_wp2)
  go_ret
  exact ⟨by first | rfl | (simp; done) | (simp [*]; done) | (simp [show ∀ l : List UInt8,(l != []) = !l.isEmpty from fun l => by cases l <;> rfl]; done),by repeat (first | exact Drawn0.refl _ | apply Drawn0.step)⟩
end Go.Proofs.YthhohbidjhcjeaaDoor.Q
namespace Go.Proofs.YthhohbidjhcjeaaDoor.Pl
open Go.RowKit Go.Proofs.YthhohbidjhcjeaaDoorW.PrintWords Go.Proofs.YthhohbidjhcjeaaDoorW.PrintMore Go.Proofs.YthhohbidjhcjeaaDoor.Q Go.Proofs.YthhohbidjhcjeaaDoor.H

/-! ### rows the other way about -/
/-- Two rows the other way about: the last patch of the first one passes first. -/
def swapS : List S24 → List S24 → Option (List S24 × List S24)
 | [],b => some (b,[])
 | p :: a,b => (swapS a b).bind fun z => (pastS p z.1).map fun y => (y.1,y.2 :: z.2)
/-! ### are two patches alike? -/
theorem map_toList_inj : ∀ {a b : List ByteArray},a.map ByteArray.toList = b.map ByteArray.toList → a = b
 | [],[],_ => rfl
 | [],_ :: _,h => by cases h
 | _ :: _,[],h => by cases h
 | x :: a,y :: b,h => by
  simp only [List.map_cons,List.cons.injEq] at h
  rw [toList_inj h.1,map_toList_inj h.2]
def eqL (a b : List ByteArray) : Bool:=decide (a.map ByteArray.toList = b.map ByteArray.toList)
theorem eqL_iff (a b : List ByteArray) : eqL a b = true ↔ a = b:=⟨fun h => map_toList_inj (of_decide_eq_true h),fun h => decide_eq_true (by rw [h])⟩
def eqS (x y : S24) : Bool:=eqL x.f5 y.f5 && eqL x.f6 y.f6 && decide (x.f0 = y.f0) && decide (x.f1.toList = y.f1.toList) && decide (x.f2.toList = y.f2.toList) && decide (x.f3.toList = y.f3.toList) && decide (x.f4 = y.f4)
theorem eqS_iff (x y : S24) : eqS x y = true ↔ x = y:=by
 constructor
 ·intro h
  unfold eqS at h
  simp only [Bool.and_eq_true,decide_eq_true_eq,eqL_iff] at h
  obtain ⟨⟨⟨⟨⟨⟨h5,h6⟩,h0⟩,h1⟩,h2⟩,h3⟩,h4⟩:=h
  obtain ⟨x0,x1,x2,x3,x4,x5,x6⟩:=x
  obtain ⟨y0,y1,y2,y3,y4,y5,y6⟩:=y
  dsimp only at h0 h1 h2 h3 h4 h5 h6
  rw [h0,toList_inj h1,toList_inj h2,toList_inj h3,h4,h5,h6]
 ·rintro rfl
  unfold eqS
  simp only [Bool.and_eq_true,decide_eq_true_eq,eqL_iff,and_self]

/-! ### joined -/
/-- Do two patches have one kind and one path? -/
def hereB (p q : S24) : Bool:=decide (p.f0 = q.f0) && decide (p.f1.toList = q.f1.toList)
/-- Two neighbours joined: none, or one; 'none': they are not one. -/
def joinS (p q : S24) : Option (Option S24) :=
 if primB p = true ∧ primB q = true then
  if eqS (invS p) q = true then some none
  else if hereB p q = true ∧ p.f0 = 9 ∧ q.f3.toList = p.f2.toList then some (some { p with f2:=q.f2 })
  else if hereB p q = true ∧ p.f0 = 7 ∧ p.f4 = q.f4 ∧ eqL p.f6 q.f5 = true then some (some { p with f6:=q.f6 })
  else if p.f0 = 10 ∧ q.f0 = 10 ∧ q.f1.toList = p.f2.toList ∧ apartB p.f1 q.f2 = true then some (some { p with f2:=q.f2 })
  else none
 else none
/-- A patch put behind others, whose last one stands ahead here. -/
def putS : List S24 → S24 → List S24
 | [],p => [p]
 | t :: r,p => match joinS t p with
  | none => p :: t :: r
  | some none => r
  | some (some x) => putS r x
/-- The stack of a row. -/
def stackS (s l : List S24) : List S24:=l.foldl putS s
def coalS (l : List S24) : List S24:=(stackS [] l).reverse
/-- What is known of a right patch of lines, of bytes, a move. -/
theorem prim_parts {x : S24} (h : primB x = true) : rightB x.f1 = true ∧ (listedB x && x.f0 != 7) = false ∧ kindB x = true:=by
 unfold primB at h
 simp only [Bool.and_eq_true,Bool.not_eq_true'] at h
 exact ⟨h.1.1,h.1.2,h.2⟩
theorem unlisted {x : S24} (h : primB x = true) (h7 : ¬ x.f0 = 7) : x.f5 = [] ∧ x.f6 = [] ∧ x.f4 = 0:=by
 have hl:=(prim_parts h).2.1
 rw [show (x.f0 != 7) = true from by simpa using h7,Bool.and_true] at hl
 unfold listedB at hl
 simp only [Bool.or_eq_false_iff,decide_eq_false_iff_not] at hl
 have e4 : x.f4 = 0:=by simpa using hl.2
 refine ⟨List.length_eq_zero_iff.1 (by omega),List.length_eq_zero_iff.1 (by omega),e4⟩
theorem empty_of {s : ByteArray} (h : s.toList = ([] : List UInt8)) : s = ⟨#[]⟩:=by
 apply data_inj
 rw [← toList_data,h]
theorem prim_nine {x : S24} (h : primB x = true) (h9 : x.f0 = 9) : (x.f3.toList != x.f2.toList) = true ∧ x.f5 = [] ∧ x.f6 = [] ∧ x.f4 = 0:=by
 obtain ⟨e5,e6,e4⟩:=unlisted h (by omega)
 have hk:=(prim_parts h).2.2
 unfold kindB at hk
 rw [if_neg (by omega),if_pos h9] at hk
 exact ⟨hk,e5,e6,e4⟩
theorem prim_seven {x : S24} (h : primB x = true) (h7 : x.f0 = 7) : x.f3 = ⟨#[]⟩ ∧ x.f2 = ⟨#[]⟩ ∧ 0 ≤ x.f4 ∧ x.f4 ≤ 1073741824 ∧ linesB x.f5 = true ∧ linesB x.f6 = true ∧ 0 < x.f5.length + x.f6.length:=by
 have hk:=(prim_parts h).2.2
 unfold kindB at hk
 rw [if_neg (by omega),if_neg (by omega)] at hk
 by_cases h3 : x.f3.toList = ([] : List UInt8)
 ·rw [if_pos h3,if_neg (by omega),if_pos h7] at hk
  simp only [Bool.and_eq_true,decide_eq_true_eq] at hk
  exact ⟨empty_of h3,empty_of hk.1.1.1.1.1,hk.1.1.1.1.2,hk.1.1.1.2,hk.1.1.2,hk.1.2,hk.2⟩
 ·rw [if_neg h3] at hk
  cases hk
theorem prim_ten {x : S24} (h : primB x = true) (h10 : x.f0 = 10) : x.f3 = ⟨#[]⟩ ∧ rightB x.f2 = true ∧ apartB x.f1 x.f2 = true ∧ x.f5 = [] ∧ x.f6 = [] ∧ x.f4 = 0:=by
 obtain ⟨e5,e6,e4⟩:=unlisted h (by omega)
 have hk:=(prim_parts h).2.2
 unfold kindB at hk
 rw [if_neg (by omega),if_neg (by omega)] at hk
 by_cases h3 : x.f3.toList = ([] : List UInt8)
 ·rw [if_pos h3,if_pos h10] at hk
  simp only [Bool.and_eq_true] at hk
  exact ⟨empty_of h3,hk.1,hk.2,e5,e6,e4⟩
 ·rw [if_neg h3] at hk
  cases hk
theorem here_of {p q : S24} (h : hereB p q = true) : p.f0 = q.f0 ∧ p.f1 = q.f1:=by
 unfold hereB at h
 simp only [Bool.and_eq_true,decide_eq_true_eq] at h
 exact ⟨h.1,toList_inj h.2⟩
/-- What the document's Join makes of two. -/
def refJoin (p q : S24) : S24 × Int × Bool :=
 if primB p = true ∧ primB q = true then
  if eqS (invS p) q = true then (z24,0,true)
  else if ¬ p.f0 = q.f0 then (z24,0,false)
  else if p.f0 = 9 ∧ p.f1.toList = q.f1.toList ∧ q.f3.toList = p.f2.toList then (⟨9,p.f1,q.f2,p.f3,0,[],[]⟩,1,true)
  else if p.f0 = 7 ∧ p.f1.toList = q.f1.toList ∧ p.f4 = q.f4 ∧ eqL p.f6 q.f5 = true then (⟨7,p.f1,⟨#[]⟩,⟨#[]⟩,p.f4,p.f5,q.f6⟩,1,true)
  else if p.f0 = 10 ∧ q.f1.toList = p.f2.toList ∧ apartB p.f1 q.f2 = true then (⟨10,p.f1,q.f2,⟨#[]⟩,0,[],[]⟩,1,true)
  else (z24,0,false)
 else (z24,0,false)
def joinR : Option (Option S24) → S24 × Int × Bool
 | none => (z24,0,false)
 | some none => (z24,0,true)
 | some (some x) => (x,1,true)
theorem join_ten {p q : S24} (hp : primB p = true) (h0 : p.f0 = q.f0) :
  (if p.f0 = 10 ∧ q.f1.toList = p.f2.toList ∧ apartB p.f1 q.f2 = true then ((⟨10,p.f1,q.f2,⟨#[]⟩,0,[],[]⟩ : S24),(1 : Int),true) else (z24,0,false)) =
   joinR (if p.f0 = 10 ∧ q.f0 = 10 ∧ q.f1.toList = p.f2.toList ∧ apartB p.f1 q.f2 = true then some (some { p with f2:=q.f2 }) else none):=by
 by_cases h10 : p.f0 = 10 ∧ q.f1.toList = p.f2.toList ∧ apartB p.f1 q.f2 = true
 ·rw [if_pos h10,if_pos ⟨h10.1,h0.symm.trans h10.1,h10.2⟩]
  obtain ⟨p3,_,_,p5,p6,p4⟩:=prim_ten hp h10.1
  obtain ⟨a0,a1,a2,a3,a4,a5,a6⟩:=p
  obtain ⟨rfl,-⟩:=h10
  dsimp only at p3 p5 p6 p4
  subst p3 p5 p6 p4
  rfl
 ·rw [if_neg h10,if_neg (fun n => h10 ⟨n.1,n.2.2⟩)]
  rfl
theorem refJoin_eq (p q : S24) : refJoin p q = joinR (joinS p q):=by
 unfold refJoin joinS
 by_cases hr : primB p = true ∧ primB q = true
 ·rw [if_pos hr,if_pos hr]
  obtain ⟨hp,hq⟩:=hr
  by_cases he : eqS (invS p) q = true
  ·rw [if_pos he,if_pos he]
   rfl
  ·rw [if_neg he,if_neg he]
   by_cases h0 : p.f0 = q.f0
   ·rw [if_neg (fun n => n h0)]
    by_cases h1 : p.f1.toList = q.f1.toList
    ·have hh : hereB p q = true:=by unfold hereB; simp only [h0,h1,decide_true,Bool.and_self]
     by_cases h9 : p.f0 = 9 ∧ q.f3.toList = p.f2.toList
     ·rw [if_pos ⟨h9.1,h1,h9.2⟩,if_pos ⟨hh,h9.1,h9.2⟩]
      obtain ⟨_,p5,p6,p4⟩:=prim_nine hp h9.1
      obtain ⟨a0,a1,a2,a3,a4,a5,a6⟩:=p
      obtain ⟨rfl,-⟩:=h9
      dsimp only at p5 p6 p4
      subst p5 p6 p4
      rfl
     ·rw [if_neg (show ¬ (p.f0 = 9 ∧ p.f1.toList = q.f1.toList ∧ q.f3.toList = p.f2.toList) from fun n => h9 ⟨n.1,n.2.2⟩),if_neg (show ¬ (hereB p q = true ∧ p.f0 = 9 ∧ q.f3.toList = p.f2.toList) from fun n => h9 n.2)]
      by_cases h7 : p.f0 = 7 ∧ p.f4 = q.f4 ∧ eqL p.f6 q.f5 = true
      ·rw [if_pos ⟨h7.1,h1,h7.2⟩,if_pos ⟨hh,h7⟩]
       obtain ⟨p3,p2,-⟩:=prim_seven hp h7.1
       obtain ⟨a0,a1,a2,a3,a4,a5,a6⟩:=p
       obtain ⟨rfl,-⟩:=h7
       dsimp only at p3 p2
       subst p3 p2
       rfl
      ·rw [if_neg (show ¬ (p.f0 = 7 ∧ p.f1.toList = q.f1.toList ∧ p.f4 = q.f4 ∧ eqL p.f6 q.f5 = true) from fun n => h7 ⟨n.1,n.2.2⟩),if_neg (show ¬ (hereB p q = true ∧ p.f0 = 7 ∧ p.f4 = q.f4 ∧ eqL p.f6 q.f5 = true) from fun n => h7 n.2)]
       exact join_ten hp h0
    ·have hh : ¬ hereB p q = true:=fun e => h1 (by rw [(here_of e).2])
     rw [if_neg (show ¬ (p.f0 = 9 ∧ p.f1.toList = q.f1.toList ∧ q.f3.toList = p.f2.toList) from fun n => h1 n.2.1),if_neg (show ¬ (p.f0 = 7 ∧ p.f1.toList = q.f1.toList ∧ p.f4 = q.f4 ∧ eqL p.f6 q.f5 = true) from fun n => h1 n.2.1),if_neg (show ¬ (hereB p q = true ∧ p.f0 = 9 ∧ q.f3.toList = p.f2.toList) from fun n => hh n.1),if_neg (show ¬ (hereB p q = true ∧ p.f0 = 7 ∧ p.f4 = q.f4 ∧ eqL p.f6 q.f5 = true) from fun n => hh n.1)]
     exact join_ten hp h0
   ·have hh : ¬ hereB p q = true:=fun e => h0 (here_of e).1
    rw [if_pos h0,if_neg (show ¬ (hereB p q = true ∧ p.f0 = 9 ∧ q.f3.toList = p.f2.toList) from fun n => hh n.1),if_neg (show ¬ (hereB p q = true ∧ p.f0 = 7 ∧ p.f4 = q.f4 ∧ eqL p.f6 q.f5 = true) from fun n => hh n.1),if_neg (fun n => h0 (n.1.trans n.2.1.symm))]
    rfl
 ·rw [if_neg hr,if_neg hr]
  rfl
end Go.Proofs.YthhohbidjhcjeaaDoor.Pl
namespace Go.Proofs.YthhohbidjhcjeaaDoor.H
open Go.RowKit Go.Proofs.YthhohbidjhcjeaaDoorW.PrintWords Go.Proofs.YthhohbidjhcjeaaDoorW.PrintLast Go.Proofs.YthhohbidjhcjeaaDoorW.PrintMore
open Go.Proofs.YthhohbidjhcjeaaDoor.Q Go.Proofs.YthhohbidjhcjeaaDoor.Pl
set_option linter.unusedSimpArgs false
set_option linter.unusedVariables false
theorem eqL_cons (a b : ByteArray) (x y : List ByteArray) : eqL (a :: x) (b :: y) = (decide (a.toList = b.toList) && eqL x y):=by
 apply Bool.eq_iff_iff.2
 simp only [Bool.and_eq_true,decide_eq_true_eq,eqL_iff,List.cons.injEq]
 exact ⟨fun h => ⟨by rw [h.1],h.2⟩,fun h => ⟨toList_inj h.1,h.2⟩⟩
theorem equal_l (a b : List ByteArray) (hl : a.length = b.length) (hn : a.length ≤ 140737488355328) : ∀ (d i : Nat),i + d = a.length → Ev (fun k => slices_Equal_string_string.l0 k a b (a.length : Int) (i : Int)) (eqL (a.drop i) (b.drop i)):=by
 intro d
 induction d with
 | zero =>
  intro i hi
  refine Ev.step (f:=fun _ => some (eqL (a.drop i) (b.drop i))) (fun k => ?_) (Ev.now _)
  simp only [slices_Equal_string_string.l0]
  rw [if_neg (by omega),List.drop_of_length_le (by omega),List.drop_of_length_le (by omega)]
  rfl
 | succ d ih =>
  intro i hi
  have h1 : i < a.length:=by omega
  have h2 : i < b.length:=by omega
  have ea : a.drop i = a[i] :: a.drop (i + 1):=List.drop_eq_getElem_cons h1
  have eb : b.drop i = b[i] :: b.drop (i + 1):=List.drop_eq_getElem_cons h2
  rw [ea,eb,eqL_cons]
  by_cases hc : a[i].toList = b[i].toList
  ·rw [decide_eq_true hc,Bool.true_and]
   refine Ev.step (f:=fun k => slices_Equal_string_string.l0 k a b (a.length : Int) ((i + 1 : Nat) : Int)) (fun k => ?_) (ih (i + 1) (by omega))
   simp only [slices_Equal_string_string.l0]
   rw [if_pos (by omega),if_pos (by omega),if_pos (by omega),if_pos (by omega),rdOf_get _ _ h1,rdOf_get _ _ h2,if_pos hc,wrap_1 h1 hn]
  ·rw [decide_eq_false hc,Bool.false_and]
   refine Ev.step (f:=fun _ => some false) (fun k => ?_) (Ev.now _)
   simp only [slices_Equal_string_string.l0]
   rw [if_pos (by omega),if_pos (by omega),if_pos (by omega),if_pos (by omega),rdOf_get _ _ h1,rdOf_get _ _ h2,if_neg hc]
theorem equal_list (a b : List ByteArray) (hn : a.length ≤ 140737488355328) : Ev (fun k => slices_Equal_string_string.f k a b) (eqL a b):=by
 by_cases hl : a.length = b.length
 ·have h:=equal_l a b hl hn a.length 0 (by omega)
  rw [List.drop_zero,List.drop_zero] at h
  refine Ev.congr (fun k => ?_) h
  unfold slices_Equal_string_string.f
  rw [if_pos (by omega)]
  rfl
 ·have e : eqL a b = false:=by
   rw [Bool.eq_false_iff]
   intro h
   exact hl (by rw [(eqL_iff _ _).1 h])
  rw [e]
  refine Ev.congr (fun k => ?_) (Ev.now _)
  unfold slices_Equal_string_string.f
  rw [if_neg (by omega)]
theorem equal_at (a b : List ByteArray) (A : Option Addr) (c : Nat) (B : Option Addr) (d : Nat) (w : World) (hn : a.length ≤ 140737488355328) (ga : Kd.C Kd.string w A a.length a) (hc : a.length ≤ c) (gb : Kd.C Kd.string w B b.length b) (hd : b.length ≤ d) :
  Calls Tryd.prog 116 #[.slice A a.length c,.slice B b.length d] w fun e w' => e = .returned (.bool (eqL a b)) ∧ Below w.heap.size w w':=by
 obtain ⟨k,hk⟩:=(equal_list a b hn).rounds
 exact (slices_Equal_string_string.calls k A c a B d b _ w ga hc gb hd hk).mono (fun _ _ ⟨he,hb⟩ => ⟨he,hb.below⟩)
/-- Two boxes that hold two patches. -/
structure S2 (w : World) (cp cq : Array Value) (W : World) : Prop where
 p : W.heap[w.heap.size]? = some (.cells cp 24 (0,0))
 q : W.heap[w.heap.size + 1]? = some (.cells cq 24 (0,0))
 below : Below w.heap.size w W
theorem S2.start (w : World) (cp cq : Array Value) : S2 w cp cq ((w.alloc (.cells cp 24)).alloc (.cells cq 24)):=⟨box1 w _ _,box2 w _ _,((Below.refl _ w).alloc (Nat.le_refl _) _).alloc (by simp) _⟩
theorem S2.later {w W W' : World} {cp cq : Array Value} (h : S2 w cp cq W) (hb : Below W.heap.size W W') : S2 w cp cq W':=⟨blk_below h.p hb,blk_below h.q hb,h.below.trans (hb.mono h.below.size)⟩
theorem S2.set {w W : World} {cp cq : Array Value} (h : S2 w cp cq W) (i : Nat) (v : Value) : S2 w (cp.setIfInBounds i v) cq (W.setCell ⟨w.heap.size,i,none⟩ v) :=
 ⟨blk_set h.p i v,blk_far h.q (by show w.heap.size + 1 ≠ w.heap.size; omega) _,h.below.setCell (by simp) _⟩
theorem Rd.s2 {w W : World} {cp cq : Array Value} {x : S24} {A5 : Option Addr} {c5 : Nat} {A6 : Option Addr} {c6 : Nat} (h : Rd w x A5 c5 A6 c6) (hst : S2 w cp cq W) : Rd W x A5 c5 A6 c6:=h.below hst.below
theorem equal_s2 {w : World} (W : World) {cp cq : Array Value} (a b : List ByteArray) (A : Option Addr) (c : Nat) (B : Option Addr) (d : Nat) (hn : a.length ≤ 140737488355328) (ga : Kd.C Kd.string w A a.length a) (hc : a.length ≤ c) (gb : Kd.C Kd.string w B b.length b) (hd : b.length ≤ d) (h : S2 w cp cq W) :
  Calls Tryd.prog 116 #[.slice A a.length c,.slice B b.length d] W fun e W' => e = .returned (.bool (eqL a b)) ∧ S2 w cp cq W' :=
 (equal_at a b A c B d W hn (Kd.C_below ga h.below) hc (Kd.C_below gb h.below) hd).mono (fun _ _ ⟨he,hb⟩ => ⟨he,h.later hb⟩)
theorem right_s2 {w : World} (W : World) {cp cq : Array Value} (x : S24) (A5 : Option Addr) (c5 : Nat) (A6 : Option Addr) (c6 : Nat) (hx : Okp x) (rx : Rd w x A5 c5 A6 c6) (h : S2 w cp cq W) :
  Calls Tryd.prog 19 #[.agg (cs x A5 c5 A6 c6)] W fun e W' => e = .returned (.bool (primB x)) ∧ S2 w cp cq W' :=
 (right_at x A5 c5 A6 c6 W hx (rx.s2 h)).mono (fun _ _ ⟨he,hb⟩ => ⟨he,h.later hb⟩)
theorem apart_s2 {w : World} (W : World) {cp cq : Array Value} (a b : ByteArray) (h : S2 w cp cq W) :
  Calls Tryd.prog 48 #[.string a,.string b] W fun e W' => e = .returned (.bool (apartB a b)) ∧ S2 w cp cq W' :=
 (path_Apart.calls a b _ W (apart_f a b)).mono (fun _ _ ⟨he,hb⟩ => ⟨he,h.later hb.below⟩)
set_option maxHeartbeats 4000000 in
set_option maxRecDepth 100000 in
theorem alike_at (p q : S24) (A5 : Option Addr) (c5 : Nat) (A6 : Option Addr) (c6 : Nat) (B5 : Option Addr) (d5 : Nat) (B6 : Option Addr) (d6 : Nat) (w : World) (hp : Okp p) (rp : Rd w p A5 c5 A6 c6) (rq : Rd w q B5 d5 B6 d6) :
  Calls Tryd.prog 115 #[.agg #[.int .i64 p.f0,.string p.f1,.string p.f2,.string p.f3,.int .i64 p.f4,.slice A5 p.f5.length c5,.slice A6 p.f6.length c6],.agg #[.int .i64 q.f0,.string q.f1,.string q.f2,.string q.f3,.int .i64 q.f4,.slice B5 q.f5.length d5,.slice B6 q.f6.length d6]] w fun e w' => e = .returned (.bool (eqS p q)) ∧ Below w.heap.size w w':=by
 have hst:=S2.start w #[.int .i64 p.f0,.string p.f1,.string p.f2,.string p.f3,.int .i64 p.f4,.slice A5 p.f5.length c5,.slice A6 p.f6.length c6] #[.int .i64 q.f0,.string q.f1,.string q.f2,.string q.f3,.int .i64 q.f4,.slice B5 q.f5.length d5,.slice B6 q.f6.length d6]
 unfold eqS
 have t0 : decide (p.f0 = q.f0) = (p.f0 == q.f0):=by cases h : (p.f0 == q.f0) <;> simpa using h
 have t1 : decide (p.f1.toList = q.f1.toList) = (p.f1.toList == q.f1.toList):=by cases h : (p.f1.toList == q.f1.toList) <;> simpa using h
 have t2 : decide (p.f2.toList = q.f2.toList) = (p.f2.toList == q.f2.toList):=by cases h : (p.f2.toList == q.f2.toList) <;> simpa using h
 have t3 : decide (p.f3.toList = q.f3.toList) = (p.f3.toList == q.f3.toList):=by cases h : (p.f3.toList == q.f3.toList) <;> simpa using h
 have t4 : decide (p.f4 = q.f4) = (p.f4 == q.f4):=by cases h : (p.f4 == q.f4) <;> simpa using h
 rw [t0,t1,t2,t3,t4]
 clear t0 t1 t2 t3 t4
 go_enter Tryd.func115,Tryd.ntmps115
 go_wp2_with (fail)
 refine (equal_s2 _ p.f5 q.f5 A5 c5 B5 d5 hp.ok.1 rp.g5 rp.l5 rq.g5 rq.l5 hst).mono ?_
 rintro e w1 ⟨rfl,hst⟩
 obtain ⟨pc0,pc1,pc2,pc3,pc4,pc5,pc6⟩:=cells7 hst.p
 obtain ⟨qc0,qc1,qc2,qc3,qc4,qc5,qc6⟩:=cells7 hst.q
 cases e5 : eqL p.f5 q.f5 with
 | false =>
  go_wp2
  go_ret
  exact ⟨congrArg (fun b => Ending.returned (.bool b)) (show false = _ by simp only [e5,Bool.false_and,Bool.true_and]),hst.below⟩
 | true =>
  go_wp2_with (fail)
  refine (equal_s2 _ p.f6 q.f6 A6 c6 B6 d6 hp.ok.2 rp.g6 rp.l6 rq.g6 rq.l6 hst).mono ?_
  clear pc0 pc1 pc2 pc3 pc4 pc5 pc6 qc0 qc1 qc2 qc3 qc4 qc5 qc6
  rintro e w2 ⟨rfl,hst⟩
  obtain ⟨pc0,pc1,pc2,pc3,pc4,pc5,pc6⟩:=cells7 hst.p
  obtain ⟨qc0,qc1,qc2,qc3,qc4,qc5,qc6⟩:=cells7 hst.q
  cases e6 : eqL p.f6 q.f6 with
  | false =>
   go_wp2
   go_ret
   exact ⟨congrArg (fun b => Ending.returned (.bool b)) (show false = _ by simp only [e5,e6,Bool.false_and,Bool.true_and]),hst.below⟩
  | true =>
   cases h0 : (p.f0 == q.f0) with
   | false =>
    go_wp2
    go_ret
    exact ⟨congrArg (fun b => Ending.returned (.bool b)) (show false = _ by simp only [e5,e6,h0,Bool.false_and,Bool.true_and]),hst.below⟩
   | true =>
    cases h1 : (p.f1.toList == q.f1.toList) with
    | false =>
     go_wp2
     go_ret
     exact ⟨congrArg (fun b => Ending.returned (.bool b)) (show false = _ by simp only [e5,e6,h0,h1,Bool.false_and,Bool.true_and]),hst.below⟩
    | true =>
     cases h2 : (p.f2.toList == q.f2.toList) with
     | false =>
      go_wp2
      go_ret
      exact ⟨congrArg (fun b => Ending.returned (.bool b)) (show false = _ by simp only [e5,e6,h0,h1,h2,Bool.false_and,Bool.true_and]),hst.below⟩
     | true =>
      cases h3 : (p.f3.toList == q.f3.toList) with
      | false =>
       go_wp2
       go_ret
       exact ⟨congrArg (fun b => Ending.returned (.bool b)) (show false = _ by simp only [e5,e6,h0,h1,h2,h3,Bool.false_and,Bool.true_and]),hst.below⟩
      | true =>
       go_wp2
       go_ret
       exact ⟨congrArg (fun b => Ending.returned (.bool b)) (show (p.f4 == q.f4) = _ by simp only [e5,e6,h0,h1,h2,h3,Bool.false_and,Bool.true_and]),hst.below⟩
end Go.Proofs.YthhohbidjhcjeaaDoor.H
namespace Go.Proofs.YthhohbidjhcjeaaDoor.H
open Go.RowKit Go.Proofs.YthhohbidjhcjeaaDoorW.PrintWords Go.Proofs.YthhohbidjhcjeaaDoorW.PrintLast Go.Proofs.YthhohbidjhcjeaaDoorW.PrintMore
open Go.Proofs.YthhohbidjhcjeaaDoor.Q Go.Proofs.YthhohbidjhcjeaaDoor.Pl
set_option linter.unusedVariables false
set_option linter.unusedSimpArgs false
theorem tkH {P : Program} {md : Region.Mode} {ops : Array Oper} {Q : Exit → Act → World → Prop} {S : World → Prop} {oi : Oper} {v : Value} {fuel : Nat} {listed : Array Bool} {a : Act} {w : World} (i : Nat) (N : Option Tmp) (hi : ops[i]? = some oi) (hN : oi.dst = N)
  (hc : (Region.noSelect ops && Region.free md ops listed i && (Region.ready md ops listed).contains i) = true) (hw : Region.wanted oi (yielded ops a.tmps) = true)
  (hQ : ∀ c a w,Q (.panic c) (a.put N v) w → Q (.panic c) a w) (hy : ∀ w,S w → (execOp a.eval oi).run P w = .ok (.value v) w) (hS : S w)
  (h : wpAnyH P md ops Q S fuel (listed.setIfInBounds i true) (a.put N v) w) : wpAnyH P md ops Q S (fuel + 1) listed a w:=by
 subst hN
 simp only [Bool.and_eq_true] at hc
 exact wpAnyH_take hi hc.1.1 hc.1.2 hc.2 hQ (Or.inl ⟨hw,hy⟩) hS h
theorem inv_rd (x : S24) (A5 : Option Addr) (c5 : Nat) (A6 : Option Addr) (c6 : Nat) (w : World) (rx : Rd w x A5 c5 A6 c6) :
  Calls Tryd.prog 18 #[.agg (cs x A5 c5 A6 c6)] w fun e w' => ∃ B5 d5 B6 d6,e = .returned (.agg (cs (invS x) B5 d5 B6 d6)) ∧ Rd w' (invS x) B5 d5 B6 d6 ∧ Below w.heap.size w w':=by
 refine (inv_cells x A5 c5 A6 c6 w (fun k => k < w.heap.size) rx.l5 (Kd.C_F Kd.heap_string rx.g5) rx.l6 (Kd.C_F Kd.heap_string rx.g6)).mono ?_
 rintro e w' ⟨B5,d5,B6,d6,rfl,m5,e5,m6,e6,hb⟩
 exact ⟨B5,d5,B6,d6,rfl,⟨Kd.F_now e5,m5,Kd.F_now e6,m6⟩,hb⟩
/-- joinS with its tests as Bools. -/
def joinB (p q : S24) : Option (Option S24) :=
 if (primB p && primB q) = true then
  if eqS (invS p) q = true then some none
  else if ((p.f0 == q.f0) && (p.f1.toList == q.f1.toList) && (p.f0 == 9) && (q.f3.toList == p.f2.toList)) = true then some (some { p with f2:=q.f2 })
  else if ((p.f0 == q.f0) && (p.f1.toList == q.f1.toList) && (p.f0 == 7) && (p.f4 == q.f4) && eqL p.f6 q.f5) = true then some (some { p with f6:=q.f6 })
  else if ((p.f0 == 10) && (q.f0 == 10) && (q.f1.toList == p.f2.toList) && apartB p.f1 q.f2) = true then some (some { p with f2:=q.f2 })
  else none
 else none
theorem joinS_eq (p q : S24) : joinS p q = joinB p q:=by
 unfold joinS joinB hereB
 simp only [Bool.and_eq_true,decide_eq_true_eq,beq_iff_eq,and_assoc]
/-- What join hands back. -/
def JoinPost (w0 w : World) : Option (Option S24) → Ending → World → Prop
 | none,e,w' => e = .returned (.tuple #[.slice none 0 0,.bool false]) ∧ Below w.heap.size w w'
 | some none,e,w' => e = .returned (.tuple #[.slice none 0 0,.bool true]) ∧ Below w.heap.size w w'
 | some (some x),e,w' => ∃ (g : Nat) (X5 : Option Addr) (x5 : Nat) (X6 : Option Addr) (x6 : Nat),e = .returned (.tuple #[.slice (some ⟨g,0,none⟩) 1 1,.bool true]) ∧ w'.heap[g]? = some (.cells (cs x X5 x5 X6 x6) 24 (0,0)) ∧ Rd w0 x X5 x5 X6 x6 ∧ Below w.heap.size w w'
theorem joinS_okp {p q x : S24} (hp : Okp p) (hq : Okp q) (h : joinS p q = some (some x)) : Okp x:=by
 unfold joinS at h
 repeat' split at h
 all_goals cases h
 all_goals first | exact ⟨hp.ok,hp.s1,hq.s2,hp.s3⟩ | exact ⟨⟨hp.ok.1,hq.ok.2⟩,hp.s1,hp.s2,hp.s3⟩
theorem join_one {w0 w W : World} {cp cq : Array Value} (h : S2 w cp cq W) (i : Nat) (v : Value) (x : S24) (X5 : Option Addr) (x5 : Nat) (X6 : Option Addr) (x6 : Nat) (rx : Rd w0 x X5 x5 X6 x6) :
  JoinPost w0 w (some (some x)) (.returned (.tuple #[.slice (some ⟨W.heap.size,0,none⟩) 1 1,.bool true])) ((W.setCell ⟨w.heap.size,i,none⟩ v).alloc (.cells (cs x X5 x5 X6 x6) 24)):=by
 have hb : Below w.heap.size w ((W.setCell ⟨w.heap.size,i,none⟩ v).alloc (.cells (cs x X5 x5 X6 x6) 24)):=below_alloc (h.below.setCell (by simp) _) _
 refine ⟨W.heap.size,X5,x5,X6,x6,rfl,?_,rx,hb⟩
 have hn:=blk_new (W.setCell ⟨w.heap.size,i,none⟩ v) (.cells (cs x X5 x5 X6 x6) 24)
 simpa using hn
set_option maxHeartbeats 16000000 in
set_option maxRecDepth 100000 in
theorem join_at (p q : S24) (A5 : Option Addr) (c5 : Nat) (A6 : Option Addr) (c6 : Nat) (B5 : Option Addr) (d5 : Nat) (B6 : Option Addr) (d6 : Nat) (w : World) (w0 : World) (hw0 : Below w0.heap.size w0 w) (hp : Okp p) (hq : Okp q) (rp0 : Rd w0 p A5 c5 A6 c6) (rq0 : Rd w0 q B5 d5 B6 d6) :
  Calls Tryd.prog 98 #[.agg #[.int .i64 p.f0,.string p.f1,.string p.f2,.string p.f3,.int .i64 p.f4,.slice A5 p.f5.length c5,.slice A6 p.f6.length c6],.agg #[.int .i64 q.f0,.string q.f1,.string q.f2,.string q.f3,.int .i64 q.f4,.slice B5 q.f5.length d5,.slice B6 q.f6.length d6]] w (JoinPost w0 w (joinS p q)):=by
 have rp:=rp0.below hw0
 have rq:=rq0.below hw0
 have hst:=S2.start w #[.int .i64 p.f0,.string p.f1,.string p.f2,.string p.f3,.int .i64 p.f4,.slice A5 p.f5.length c5,.slice A6 p.f6.length c6] #[.int .i64 q.f0,.string q.f1,.string q.f2,.string q.f3,.int .i64 q.f4,.slice B5 q.f5.length d5,.slice B6 q.f6.length d6]
 obtain ⟨x1,bp⟩ : ∃ x,primB p = x:=⟨_,rfl⟩
 obtain ⟨x2,bq⟩ : ∃ x,primB q = x:=⟨_,rfl⟩
 have Bp:=Aside0.mk bp
 have Bq:=Aside0.mk bq
 clear bp bq
 go_enter Tryd.func98,Tryd.ntmps98
 go_wp2_with (fail)
 refine (right_s2 _ p A5 c5 A6 c6 hp rp hst).mono ?_
 rintro e w1 ⟨rfl,hst⟩
 rw [Bp.out]
 obtain ⟨pc0,pc1,pc2,pc3,pc4,pc5,pc6⟩:=cells7 hst.p
 obtain ⟨qc0,qc1,qc2,qc3,qc4,qc5,qc6⟩:=cells7 hst.q
 cases x1 with
 | false =>
  go_wp2
  have hj : joinS p q = none:=by rw [joinS_eq]; unfold joinB; simp only [Bp.out,Bool.and_self,Bool.true_and,Bool.false_and,Bool.and_true,Bool.and_false,if_true,if_false,Bool.false_eq_true,reduceIte]
  rw [hj]
  clear hj
  go_ret2
  exact ⟨rfl,hst.below⟩
 | true =>
  go_wp2_with (fail)
  refine (right_s2 _ q B5 d5 B6 d6 hq rq hst).mono ?_
  clear pc0 pc1 pc2 pc3 pc4 pc5 pc6 qc0 qc1 qc2 qc3 qc4 qc5 qc6
  rintro e w2 ⟨rfl,hst⟩
  rw [Bq.out]
  obtain ⟨pc0,pc1,pc2,pc3,pc4,pc5,pc6⟩:=cells7 hst.p
  obtain ⟨qc0,qc1,qc2,qc3,qc4,qc5,qc6⟩:=cells7 hst.q
  cases x2 with
  | false =>
   go_wp2
   have hj : joinS p q = none:=by rw [joinS_eq]; unfold joinB; simp only [Bp.out,Bq.out,Bool.and_self,Bool.true_and,Bool.false_and,Bool.and_true,Bool.and_false,if_true,if_false,Bool.false_eq_true,reduceIte]
   rw [hj]
   clear hj
   go_ret2
   exact ⟨rfl,hst.below⟩
  | true =>
   go_upto_region 3 with (fail)
   go_cut [6] from 15 to 26 (fun v6 w' => v6 = .bool ((p.f0 == q.f0) && (p.f1.toList == q.f1.toList)) ∧ w' = w2)
   case first =>
    cases h1 : (p.f0 == q.f0) with
    | false =>
     go_wp2
     go_meet
     case rel => exact ⟨by rw [h1]; rfl,rfl⟩
    | true =>
     go_wp2
     go_meet
     case rel => exact ⟨by rw [h1]; rfl,rfl⟩
   case rest =>
    obtain ⟨rfl,rfl⟩:=hcut
    obtain ⟨b6,h6⟩ : ∃ b,((p.f0 == q.f0) && (p.f1.toList == q.f1.toList)) = b:=⟨_,rfl⟩
    rw [h6]
    have H6:=Aside0.mk h6
    clear h6
    go_upto_region 5 with (fail)
    clear pc0 pc1 pc2 pc3 pc4 pc5 pc6 qc0 qc1 qc2 qc3 qc4 qc5 qc6
    obtain ⟨al,hal⟩ : ∃ b,eqS (invS p) q = b:=⟨_,rfl⟩
    have Al:=Aside0.mk hal
    clear hal
    have hst0:=Aside0.mk hst
    go_cut [27] from 28 to 31 (fun v27 w' => v27 = .bool al ∧ Aside0 (S2 w #[.int .i64 p.f0,.string p.f1,.string p.f2,.string p.f3,.int .i64 p.f4,.slice A5 p.f5.length c5,.slice A6 p.f6.length c6] #[.int .i64 q.f0,.string q.f1,.string q.f2,.string q.f3,.int .i64 q.f4,.slice B5 q.f5.length d5,.slice B6 q.f6.length d6] w'))
    case first =>
     refine wp_region_held_drew (S:=fun W => Below wc.heap.size wc W) (by kernel_rfl) (below_drew (Below.refl _ _)) (fun _ => ?_)
     have hS:=below_drew (Below.refl wc.heap.size wc)
     generalize World.drew wc = W at hS ⊢
     refine tkH (v:=?_) 0 (some 28) rfl rfl (by kernel_rfl) (by kernel_rfl) (fun _ _ _ h => h) (fun W' hSW => ?_) hS ?_
     rotate_left
     ·obtain ⟨k0,k1,k2,k3,k4,k5,k6⟩:=cells7 (S2.later hst0.out hSW).p; go_simp; (try with_reducible rfl)
     simp only [Act.put,List.setIfInBounds_toArray,List.set_cons_zero,List.set_cons_succ]
     refine tkH (v:=?_) 2 (some 30) rfl rfl (by kernel_rfl) (by kernel_rfl) (fun _ _ _ h => h) (fun W' hSW => ?_) hS ?_
     rotate_left
     ·obtain ⟨k0,k1,k2,k3,k4,k5,k6⟩:=cells7 (S2.later hst0.out hSW).q; go_simp; (try with_reducible rfl)
     simp only [Act.put,List.setIfInBounds_toArray,List.set_cons_zero,List.set_cons_succ]
     refine wpAnyH_ready (rs:=[1]) (by kernel_rfl) (by simp) (AllReadyH.cons rfl (fun K hK => ?_) AllReadyH.nil)
     go_simp
     refine (inv_rd p A5 c5 A6 c6 _ ((rp.s2 hst0.out).below hS)).mono ?_
     rintro e W ⟨I5,i5,I6,i6,rfl,ri,hb⟩
     replace hS:=hS.trans (hb.mono hS.size)
     clear hb
     refine hK.out _ _ hS (fun _ => ?_)
     clear hK K
     refine wpAnyH_ready (rs:=[3]) (by kernel_rfl) (by simp) (AllReadyH.cons rfl (fun K hK => ?_) AllReadyH.nil)
     go_simp
     refine (alike_at (invS p) q I5 i5 I6 i6 B5 d5 B6 d6 _ (okp_inv hp) ri ((rq.s2 hst0.out).below hS)).mono ?_
     rw [Al.out]
     rintro e W ⟨rfl,hb⟩
     replace hS:=hS.trans (hb.mono hS.size)
     clear hb
     refine hK.out _ _ hS (fun _ => ?_)
     clear hK K
     refine tkH (v:=?_) 4 (some 27) rfl rfl (by kernel_rfl) (by kernel_rfl) (fun _ _ _ h => h) (fun W' hSW => ?_) hS ?_
     rotate_left
     ·go_simp; (try with_reducible rfl)
     simp only [Act.put,List.setIfInBounds_toArray,List.set_cons_zero,List.set_cons_succ]
     refine wpAnyH_done (by kernel_rfl) ?_ _
     go_wp2
     go_meet
     case rel => exact ⟨rfl,⟨hst0.out.later hS⟩⟩
    case rest =>
     clear hst0 hst
     obtain ⟨rfl,hS⟩:=hcut
     have hst:=hS.out
     clear hS
     cases al with
     | true =>
      go_wp2
      have hj : joinS p q = some none:=by rw [joinS_eq]; unfold joinB; simp only [Bp.out,Bq.out,H6.out,Al.out,Bool.and_self,Bool.true_and,Bool.false_and,Bool.and_true,Bool.and_false,if_true,if_false,Bool.false_eq_true,reduceIte]
      rw [hj]
      clear hj
      go_ret2
      exact ⟨rfl,hst.below⟩
     | false =>
      obtain ⟨pc0,pc1,pc2,pc3,pc4,pc5,pc6⟩:=cells7 hst.p
      obtain ⟨pf0,pf1,pf2,pf3,pf4,pf5,pf6⟩:=frozen7 hst.p
      obtain ⟨qc0,qc1,qc2,qc3,qc4,qc5,qc6⟩:=cells7 hst.q
      obtain ⟨qf0,qf1,qf2,qf3,qf4,qf5,qf6⟩:=frozen7 hst.q
      cases b6 with
      | false =>
       cases p10 : (p.f0 == 10) with
       | false =>
        go_wp2
        have hj : joinS p q = none:=by rw [joinS_eq]; unfold joinB; simp only [Bp.out,Bq.out,H6.out,Al.out,p10,Bool.and_self,Bool.true_and,Bool.false_and,Bool.and_true,Bool.and_false,if_true,if_false,Bool.false_eq_true,reduceIte]
        rw [hj]
        clear hj
        go_ret2
        exact ⟨rfl,hst.below⟩
       | true =>
        cases q10 : (q.f0 == 10) with
        | false =>
         go_wp2
         have hj : joinS p q = none:=by rw [joinS_eq]; unfold joinB; simp only [Bp.out,Bq.out,H6.out,Al.out,p10,q10,Bool.and_self,Bool.true_and,Bool.false_and,Bool.and_true,Bool.and_false,if_true,if_false,Bool.false_eq_true,reduceIte]
         rw [hj]
         clear hj
         go_ret2
         exact ⟨rfl,hst.below⟩
        | true =>
         cases qp : (q.f1.toList == p.f2.toList) with
         | false =>
          go_wp2
          have hj : joinS p q = none:=by rw [joinS_eq]; unfold joinB; simp only [Bp.out,Bq.out,H6.out,Al.out,p10,q10,qp,Bool.and_self,Bool.true_and,Bool.false_and,Bool.and_true,Bool.and_false,if_true,if_false,Bool.false_eq_true,reduceIte]
          rw [hj]
          clear hj
          go_ret2
          exact ⟨rfl,hst.below⟩
         | true =>
          go_wp2_with (fail)
          refine (apart_s2 _ p.f1 q.f2 hst).mono ?_
          clear pc0 pc1 pc2 pc3 pc4 pc5 pc6 pf0 pf1 pf2 pf3 pf4 pf5 pf6 qc0 qc1 qc2 qc3 qc4 qc5 qc6 qf0 qf1 qf2 qf3 qf4 qf5 qf6
          rintro e w3 ⟨rfl,hst⟩
          obtain ⟨pc0,pc1,pc2,pc3,pc4,pc5,pc6⟩:=cells7 hst.p
          obtain ⟨pf0,pf1,pf2,pf3,pf4,pf5,pf6⟩:=frozen7 hst.p
          obtain ⟨qc0,qc1,qc2,qc3,qc4,qc5,qc6⟩:=cells7 hst.q
          obtain ⟨qf0,qf1,qf2,qf3,qf4,qf5,qf6⟩:=frozen7 hst.q
          cases ap : apartB p.f1 q.f2 with
          | false =>
           go_wp2
           have hj : joinS p q = none:=by rw [joinS_eq]; unfold joinB; simp only [Bp.out,Bq.out,H6.out,Al.out,p10,q10,qp,ap,Bool.and_self,Bool.true_and,Bool.false_and,Bool.and_true,Bool.and_false,if_true,if_false,Bool.false_eq_true,reduceIte]
           rw [hj]
           clear hj
           go_ret2
           exact ⟨rfl,hst.below⟩
          | true =>
           go_wp2
           have hj : joinS p q = some (some { p with f2:=q.f2 }):=by rw [joinS_eq]; unfold joinB; simp only [Bp.out,Bq.out,H6.out,Al.out,p10,q10,qp,ap,Bool.and_self,Bool.true_and,Bool.false_and,Bool.and_true,Bool.and_false,if_true,if_false,Bool.false_eq_true,reduceIte]
           rw [hj]
           clear hj
           go_ret2
           exact join_one hst 2 _ { p with f2:=q.f2 } A5 c5 A6 c6 (rp0.of rfl rfl)
      | true =>
       cases k9 : (p.f0 == 9) with
       | false =>
        cases k7 : (p.f0 == 7) with
        | false =>
         cases p10 : (p.f0 == 10) with
         | false =>
          go_wp2
          have hj : joinS p q = none:=by rw [joinS_eq]; unfold joinB; simp only [Bp.out,Bq.out,H6.out,Al.out,k9,k7,p10,Bool.and_self,Bool.true_and,Bool.false_and,Bool.and_true,Bool.and_false,if_true,if_false,Bool.false_eq_true,reduceIte]
          rw [hj]
          clear hj
          go_ret2
          exact ⟨rfl,hst.below⟩
         | true =>
          cases q10 : (q.f0 == 10) with
          | false =>
           go_wp2
           have hj : joinS p q = none:=by rw [joinS_eq]; unfold joinB; simp only [Bp.out,Bq.out,H6.out,Al.out,k9,k7,p10,q10,Bool.and_self,Bool.true_and,Bool.false_and,Bool.and_true,Bool.and_false,if_true,if_false,Bool.false_eq_true,reduceIte]
           rw [hj]
           clear hj
           go_ret2
           exact ⟨rfl,hst.below⟩
          | true =>
           cases qp : (q.f1.toList == p.f2.toList) with
           | false =>
            go_wp2
            have hj : joinS p q = none:=by rw [joinS_eq]; unfold joinB; simp only [Bp.out,Bq.out,H6.out,Al.out,k9,k7,p10,q10,qp,Bool.and_self,Bool.true_and,Bool.false_and,Bool.and_true,Bool.and_false,if_true,if_false,Bool.false_eq_true,reduceIte]
            rw [hj]
            clear hj
            go_ret2
            exact ⟨rfl,hst.below⟩
           | true =>
            go_wp2_with (fail)
            refine (apart_s2 _ p.f1 q.f2 hst).mono ?_
            clear pc0 pc1 pc2 pc3 pc4 pc5 pc6 pf0 pf1 pf2 pf3 pf4 pf5 pf6 qc0 qc1 qc2 qc3 qc4 qc5 qc6 qf0 qf1 qf2 qf3 qf4 qf5 qf6
            rintro e w4 ⟨rfl,hst⟩
            obtain ⟨pc0,pc1,pc2,pc3,pc4,pc5,pc6⟩:=cells7 hst.p
            obtain ⟨pf0,pf1,pf2,pf3,pf4,pf5,pf6⟩:=frozen7 hst.p
            obtain ⟨qc0,qc1,qc2,qc3,qc4,qc5,qc6⟩:=cells7 hst.q
            obtain ⟨qf0,qf1,qf2,qf3,qf4,qf5,qf6⟩:=frozen7 hst.q
            cases ap : apartB p.f1 q.f2 with
            | false =>
             go_wp2
             have hj : joinS p q = none:=by rw [joinS_eq]; unfold joinB; simp only [Bp.out,Bq.out,H6.out,Al.out,k9,k7,p10,q10,qp,ap,Bool.and_self,Bool.true_and,Bool.false_and,Bool.and_true,Bool.and_false,if_true,if_false,Bool.false_eq_true,reduceIte]
             rw [hj]
             clear hj
             go_ret2
             exact ⟨rfl,hst.below⟩
            | true =>
             go_wp2
             have hj : joinS p q = some (some { p with f2:=q.f2 }):=by rw [joinS_eq]; unfold joinB; simp only [Bp.out,Bq.out,H6.out,Al.out,k9,k7,p10,q10,qp,ap,Bool.and_self,Bool.true_and,Bool.false_and,Bool.and_true,Bool.and_false,if_true,if_false,Bool.false_eq_true,reduceIte]
             rw [hj]
             clear hj
             go_ret2
             exact join_one hst 2 _ { p with f2:=q.f2 } A5 c5 A6 c6 (rp0.of rfl rfl)
        | true =>
         have e7 : p.f0 = 7:=by simpa using k7
         have p10 : (p.f0 == 10) = false:=by rw [e7]; decide
         clear e7
         cases f4 : (p.f4 == q.f4) with
         | false =>
          go_wp2
          have hj : joinS p q = none:=by rw [joinS_eq]; unfold joinB; simp only [Bp.out,Bq.out,H6.out,Al.out,k9,k7,p10,f4,Bool.and_self,Bool.true_and,Bool.false_and,Bool.and_true,Bool.and_false,if_true,if_false,Bool.false_eq_true,reduceIte]
          rw [hj]
          clear hj
          go_ret2
          exact ⟨rfl,hst.below⟩
         | true =>
          go_wp2_with (fail)
          refine (equal_s2 _ p.f6 q.f5 A6 c6 B5 d5 hp.ok.2 rp.g6 rp.l6 rq.g5 rq.l5 hst).mono ?_
          clear pc0 pc1 pc2 pc3 pc4 pc5 pc6 pf0 pf1 pf2 pf3 pf4 pf5 pf6 qc0 qc1 qc2 qc3 qc4 qc5 qc6 qf0 qf1 qf2 qf3 qf4 qf5 qf6
          rintro e w5 ⟨rfl,hst⟩
          obtain ⟨pc0,pc1,pc2,pc3,pc4,pc5,pc6⟩:=cells7 hst.p
          obtain ⟨pf0,pf1,pf2,pf3,pf4,pf5,pf6⟩:=frozen7 hst.p
          obtain ⟨qc0,qc1,qc2,qc3,qc4,qc5,qc6⟩:=cells7 hst.q
          obtain ⟨qf0,qf1,qf2,qf3,qf4,qf5,qf6⟩:=frozen7 hst.q
          cases el : eqL p.f6 q.f5 with
          | false =>
           go_wp2
           have hj : joinS p q = none:=by rw [joinS_eq]; unfold joinB; simp only [Bp.out,Bq.out,H6.out,Al.out,k9,k7,p10,f4,el,Bool.and_self,Bool.true_and,Bool.false_and,Bool.and_true,Bool.and_false,if_true,if_false,Bool.false_eq_true,reduceIte]
           rw [hj]
           clear hj
           go_ret2
           exact ⟨rfl,hst.below⟩
          | true =>
           go_wp2
           have hj : joinS p q = some (some { p with f6:=q.f6 }):=by rw [joinS_eq]; unfold joinB; simp only [Bp.out,Bq.out,H6.out,Al.out,k9,k7,p10,f4,el,Bool.and_self,Bool.true_and,Bool.false_and,Bool.and_true,Bool.and_false,if_true,if_false,Bool.false_eq_true,reduceIte]
           rw [hj]
           clear hj
           go_ret2
           exact join_one hst 6 _ { p with f6:=q.f6 } A5 c5 B6 d6 ⟨rp0.g5,rp0.l5,rq0.g6,rq0.l6⟩
       | true =>
        have e9 : p.f0 = 9:=by simpa using k9
        have k7 : (p.f0 == 7) = false:=by rw [e9]; decide
        have p10 : (p.f0 == 10) = false:=by rw [e9]; decide
        clear e9
        cases fq : (q.f3.toList == p.f2.toList) with
        | false =>
         go_wp2
         have hj : joinS p q = none:=by rw [joinS_eq]; unfold joinB; simp only [Bp.out,Bq.out,H6.out,Al.out,k9,k7,p10,fq,Bool.and_self,Bool.true_and,Bool.false_and,Bool.and_true,Bool.and_false,if_true,if_false,Bool.false_eq_true,reduceIte]
         rw [hj]
         clear hj
         go_ret2
         exact ⟨rfl,hst.below⟩
        | true =>
         go_wp2
         have hj : joinS p q = some (some { p with f2:=q.f2 }):=by rw [joinS_eq]; unfold joinB; simp only [Bp.out,Bq.out,H6.out,Al.out,k9,k7,p10,fq,Bool.and_self,Bool.true_and,Bool.false_and,Bool.and_true,Bool.and_false,if_true,if_false,Bool.false_eq_true,reduceIte]
         rw [hj]
         clear hj
         go_ret2
         exact join_one hst 2 _ { p with f2:=q.f2 } A5 c5 A6 c6 (rp0.of rfl rfl)
end Go.Proofs.YthhohbidjhcjeaaDoor.H
namespace Go.Proofs.YthhohbidjhcjeaaDoor.H
open Go.RowKit Go.Proofs.YthhohbidjhcjeaaDoorW.PrintWords Go.Proofs.YthhohbidjhcjeaaDoorW.PrintLast Go.Proofs.YthhohbidjhcjeaaDoorW.PrintMore
open Go.Proofs.YthhohbidjhcjeaaDoor.Q Go.Proofs.YthhohbidjhcjeaaDoor.Pl
set_option linter.unusedVariables false
set_option linter.unusedSimpArgs false
/-- An element of a row: its cells; its lists are known in w. -/
def Rw (w : World) (x : S24) (c : List Value) : Prop:=∃ (X5 : Option Addr) (x5 : Nat) (X6 : Option Addr) (x6 : Nat),c = [.int .i64 x.f0,.string x.f1,.string x.f2,.string x.f3,.int .i64 x.f4,.slice X5 x.f5.length x5,.slice X6 x.f6.length x6] ∧ Rd w x X5 x5 X6 x6
/-- A row of one's own over elder memory. -/
def Row (w W : World) (v : Value) (xs : List S24) : Prop:=OwnRow (Rw w) 24 7 W w.heap.size v xs
theorem Row.below {w W W' : World} {v : Value} {xs : List S24} (h : Row w W v xs) (hb : Below W.heap.size W W') : Row w W' v xs:=OwnRow.below h hb
theorem Row.slice {w W : World} {v : Value} {xs : List S24} (h : Row w W v xs) : ∃ A c,v = .slice A xs.length c ∧ xs.length ≤ c:=OwnRow.slice_ h
theorem row_nil (w W : World) : Row w W (.slice none 0 0) []:=OwnRow.none_ _ _ _ _ _
theorem row_at {w W : World} {v : Value} {xs : List S24} (h : Row w W v xs) (i : Nat) (hi : i < xs.length) :
  ∃ (ad : Addr) (c : Nat) (X5 : Option Addr) (x5 : Nat) (X6 : Option Addr) (x6 : Nat),v = .slice (some ad) xs.length c ∧ xs.length ≤ c ∧ Rd w xs[i] X5 x5 X6 x6 ∧ W.cell? (ad.add (i * 7)) = some (.int .i64 xs[i].f0) ∧ W.cell? ⟨(ad.add (i * 7)).block,(ad.add (i * 7)).off + 1,none⟩ = some (.string xs[i].f1) ∧ W.cell? ⟨(ad.add (i * 7)).block,(ad.add (i * 7)).off + 2,none⟩ = some (.string xs[i].f2) ∧ W.cell? ⟨(ad.add (i * 7)).block,(ad.add (i * 7)).off + 3,none⟩ = some (.string xs[i].f3) ∧ W.cell? ⟨(ad.add (i * 7)).block,(ad.add (i * 7)).off + 4,none⟩ = some (.int .i64 xs[i].f4) ∧ W.cell? ⟨(ad.add (i * 7)).block,(ad.add (i * 7)).off + 5,none⟩ = some (.slice X5 xs[i].f5.length x5) ∧ W.cell? ⟨(ad.add (i * 7)).block,(ad.add (i * 7)).off + 6,none⟩ = some (.slice X6 xs[i].f6.length x6):=by
 obtain ⟨A,c,rfl,hc,hl,hm,hr⟩:=OwnRow.reads h
 obtain ⟨ad,rfl,hh⟩:=hr (by omega)
 obtain ⟨cl,hcl,⟨X5,x5,X6,x6,rfl,rx⟩,hcell⟩:=hh i _ (List.getElem?_eq_getElem hi)
 exact ⟨ad,c,X5,x5,X6,x6,rfl,hc,rx,hcell 0 _ rfl,by rw [← add_field _ _ 1 (by omega)]; exact hcell 1 _ rfl,by rw [← add_field _ _ 2 (by omega)]; exact hcell 2 _ rfl,by rw [← add_field _ _ 3 (by omega)]; exact hcell 3 _ rfl,by rw [← add_field _ _ 4 (by omega)]; exact hcell 4 _ rfl,by rw [← add_field _ _ 5 (by omega)]; exact hcell 5 _ rfl,by rw [← add_field _ _ 6 (by omega)]; exact hcell 6 _ rfl⟩
theorem row_take {w W : World} {A : Option Addr} {n c : Nat} {xs : List S24} (h : Row w W (.slice A n c) xs) (m : Nat) (hm : m ≤ xs.length) : Row w W (.slice A m c) (xs.take m):=by
 obtain ⟨A',c',he,_⟩:=OwnRow.slice_ h
 injection he with _ hn _
 subst hn
 obtain ⟨inner,ho,hr⟩:=h
 refine ⟨inner.take (m * 7),?_,Kd.reps_take hr hm⟩
 rw [List.length_take,Nat.min_eq_left hm]
 exact own_take ho hm
theorem row_C {w W : World} {v : Value} {xs : List S24} (h : Row w W v xs) (hb : Below w.heap.size w W) : ∃ A c,v = .slice A xs.length c ∧ xs.length ≤ c ∧ Kd.C k24 W A xs.length xs:=by
 obtain ⟨A,c,rfl,hc,hr⟩:=OwnRow.reads h
 refine ⟨A,c,rfl,hc,ReadsRow.imp_ hr (Below.refl _ _) ?_⟩
 rintro p cl ⟨X5,x5,X6,x6,rfl,rx⟩
 exact k24_mk W p rx.l5 (Kd.C_below rx.g5 hb) rx.l6 (Kd.C_below rx.g6 hb)
theorem rw_one {w : World} {x : S24} {X5 : Option Addr} {x5 : Nat} {X6 : Option Addr} {x6 : Nat} : ∀ u ∈ ([.int .i64 x.f0,.string x.f1,.string x.f2,.string x.f3,.int .i64 x.f4,.slice X5 x.f5.length x5,.slice X6 x.f6.length x6] : List Value),u.oneCell' = true:=by
 intro u hu
 simp only [List.mem_cons,List.not_mem_nil,or_false] at hu
 rcases hu with rfl | rfl | rfl | rfl | rfl | rfl | rfl <;> rfl
theorem infoR : (Tryd.prog.info? 24).map (fun i => (i.zero,i.size,i.bytes)) = some (some (.agg #[(.int .i64 0),(.string ⟨#[]⟩),(.string ⟨#[]⟩),(.string ⟨#[]⟩),(.int .i64 0),(.slice none 0 0),(.slice none 0 0)]),7,112):=by kernel_rfl
theorem join_tuple {w0 w : World} {r : Option (Option S24)} {e : Ending} {w' : World} (h : JoinPost w0 w r e w') : ∃ a b,e = .returned (.tuple #[a,b]) ∧ Below w.heap.size w w':=by
 cases r with
 | none => exact ⟨_,_,h.1,h.2⟩
 | some y =>
  cases y with
  | none => exact ⟨_,_,h.1,h.2⟩
  | some x =>
   obtain ⟨g,X5,x5,X6,x6,he,_,_,hb⟩:=h
   exact ⟨_,_,he,hb⟩
theorem join_wide {w0 w V : World} {r : Option (Option S24)} {e : Ending} {w' : World} (hV : Below V.heap.size V w) (h : JoinPost w0 w r e w') : JoinPost w0 V r e w':=by
 cases r with
 | none => exact ⟨h.1,hV.trans (h.2.mono hV.size)⟩
 | some y =>
  cases y with
  | none => exact ⟨h.1,hV.trans (h.2.mono hV.size)⟩
  | some x =>
   obtain ⟨g,X5,x5,X6,x6,he,h1,h2,hb⟩:=h
   exact ⟨g,X5,x5,X6,x6,he,h1,h2,hV.trans (hb.mono hV.size)⟩
theorem tuple2 {a b c d : Value} (h : Ending.returned (.tuple #[a,b]) = .returned (.tuple #[c,d])) : a = c ∧ b = d:=by simpa using h
theorem row_cut (ad : Addr) (n c : Nat) (hc : n + 1 ≤ c) : ∀ W,(Instr.slice 25 (.slice (some ad) (n + 1) c) none (some (.int .i64 (n : Int))) none).run Tryd.prog W = .ok (.slice (some ad) n c) W:=by
 obtain ⟨i0,hi,hz0,hz1,hz2⟩:=info_parts infoR
 have h:=cut_to 25 24 .i64 Tryd.underlying25 hi (some ad) (n + 1) c (n : Int) (by omega) (by omega) hc
 simpa using h
/-- What put hands back. -/
def PutPost (w : World) (s : List S24) (e : Ending) (w' : World) : Prop:=∃ v,e = .returned v ∧ Row w w' v s.reverse ∧ Below w.heap.size w w'
set_option maxHeartbeats 16000000 in
set_option maxRecDepth 100000 in
theorem put_at (w : World) : ∀ (s : List S24) (W : World) (v : Value) (p : S24) (A5 : Option Addr) (c5 : Nat) (A6 : Option Addr) (c6 : Nat),Below w.heap.size w W → Row w W v s.reverse → (∀ x ∈ s,Okp x) → Okp p → Rd w p A5 c5 A6 c6 → s.length + 1 ≤ 1256584717458 →
  Calls Tryd.prog 74 #[v,.agg #[.int .i64 p.f0,.string p.f1,.string p.f2,.string p.f3,.int .i64 p.f4,.slice A5 p.f5.length c5,.slice A6 p.f6.length c6]] W (PutPost w (putS s p))
 | [],W,v,p,A5,c5,A6,c6,hB,hrow,hs,hp,rp,hl => by
  obtain ⟨A,c,rfl,hc⟩:=hrow.slice
  have hB1 : Aside0 (Below w.heap.size w (W.alloc (.cells #[.int .i64 p.f0,.string p.f1,.string p.f2,.string p.f3,.int .i64 p.f4,.slice A5 p.f5.length c5,.slice A6 p.f6.length c6] 24))):=⟨below_alloc hB _⟩
  have hrow1 : Aside0 (Row w (W.alloc (.cells #[.int .i64 p.f0,.string p.f1,.string p.f2,.string p.f3,.int .i64 p.f4,.slice A5 p.f5.length c5,.slice A6 p.f6.length c6] 24)) (.slice A ([] : List S24).reverse.length c) []):=⟨hrow.below (below_alloc (Below.refl _ _) _)⟩
  have rp1:=Aside0.mk rp
  have hsz : Aside0 ((W.alloc (.cells #[.int .i64 p.f0,.string p.f1,.string p.f2,.string p.f3,.int .i64 p.f4,.slice A5 p.f5.length c5,.slice A6 p.f6.length c6] 24)).heap.size = W.heap.size + 1):=⟨by simp⟩
  clear hrow hc hl
  simp only [List.reverse_nil,List.length_nil] at hrow1 ⊢
  go_enter Tryd.func74,Tryd.ntmps74
  go_wp2_with (((with_reducible refine gate_builtin (b:=.append) (xs:=#[.tmp 40,.tmp 42]) rfl ?_); at_builtin; refine OwnRow.append (R:=Rw w) (w0:=w) w.heap.size rfl (.tmp 40) (.tmp 42) 25 24 (.agg #[(.int .i64 0),(.string ⟨#[]⟩),(.string ⟨#[]⟩),(.string ⟨#[]⟩),(.int .i64 0),(.slice none 0 0),(.slice none 0 0)]) 7 112 rfl Tryd.underlying25 infoR rfl (by decide) (by omega) (.slice A 0 c) ([] : List S24) p [.int .i64 p.f0,.string p.f1,.string p.f2,.string p.f3,.int .i64 p.f4,.slice A5 p.f5.length c5,.slice A6 p.f6.length c6] rfl ?aX ?aP rfl (rw_one (w:=w)) ?aO ?aB ?aS ?aL ?_; (case aX => exact congrArg (fun n => Value.slice (some ⟨n,0,none⟩) 1 1) hsz.out.symm); (case aP => exact ⟨_,_,_,_,rfl,rp1.out⟩); (case aO => exact hrow1.out); (case aB => exact hB1.out); (case aS => exact hB1.out.size); (case aL => decide); intro v1 w3 hR hb3 hg hat))
  go_ret
  exact ⟨v1,rfl,hR,hb3⟩
 | t :: r,W,v,p,A5,c5,A6,c6,hB,hrow,hs,hp,rp,hl => by
  have ih:=Aside0.mk (put_at w r)
  have ot:=hs t (List.mem_cons_self ..)
  have hsr : Aside0 (∀ x ∈ r,Okp x):=⟨fun x hx => hs x (List.mem_cons_of_mem _ hx)⟩
  clear hs
  obtain ⟨L,hL⟩ : ∃ L,L = (t :: r).reverse:=⟨_,rfl⟩
  have hLl : L.length = r.length + 1:=by rw [hL]; simp
  have hLt : ∀ h,L[r.length]'h = t:=by subst hL; intro h; simp
  have hLk : Aside0 (L.take r.length = r.reverse):=⟨by rw [hL,List.reverse_cons,List.take_left' (by simp)]⟩
  rw [← hL] at hrow
  obtain ⟨ad,c,X5,x5,X6,x6,rfl,hc,rt,y0,y1,y2,y3,y4,y5,y6⟩:=row_at hrow r.length (by omega)
  simp only [hLt] at rt y0 y1 y2 y3 y4 y5 y6
  rw [hLl] at hc hrow ⊢
  obtain ⟨n,hn⟩ : ∃ n,n = r.length:=⟨_,rfl⟩
  rw [← hn] at hc hrow y0 y1 y2 y3 y4 y5 y6 hLk ⊢
  have hl2 : Aside0 (n + 2 ≤ 1256584717458):=⟨by rw [List.length_cons] at hl; omega⟩
  have hnl : Aside0 (n = r.length):=⟨hn⟩
  have hL2 : Aside0 (L.length = n + 1):=⟨by omega⟩
  have hLA : Aside0 ((L.length + 1) * 112 ≤ 140737488355328):=⟨Nat.le_trans (Nat.mul_le_mul_right 112 (show L.length + 1 ≤ 1256584717458 by have:=hl2.out; have:=hL2.out; omega)) (by decide)⟩
  have hlr : Aside0 (r.length + 1 ≤ 1256584717458):=⟨by have:=hl2.out; have:=hnl.out; omega⟩
  have htm : Aside0 (n ≤ L.length):=⟨by omega⟩
  replace hL:=Aside0.mk hL
  have hn2 : n ≤ 1256584717458:=by (have:=hl2.out; omega)
  have hwn : IntKind.i64.wrap (n : Int) = (n : Int):=wrap_small _ (by omega) (by omega)
  have hlt1 : ((n : Int) < (n : Int) + 1) = True:=eq_true (by omega)
  clear hl hn hLl hLt
  replace y0:=Aside0.mk y0
  replace y1:=Aside0.mk y1
  replace y2:=Aside0.mk y2
  replace y3:=Aside0.mk y3
  replace y4:=Aside0.mk y4
  replace y5:=Aside0.mk y5
  replace y6:=Aside0.mk y6
  have hB1 : Aside0 (Below w.heap.size w (W.alloc (.cells #[.int .i64 p.f0,.string p.f1,.string p.f2,.string p.f3,.int .i64 p.f4,.slice A5 p.f5.length c5,.slice A6 p.f6.length c6] 24))):=⟨below_alloc hB _⟩
  have hrow1 : Aside0 (Row w (W.alloc (.cells #[.int .i64 p.f0,.string p.f1,.string p.f2,.string p.f3,.int .i64 p.f4,.slice A5 p.f5.length c5,.slice A6 p.f6.length c6] 24)) (.slice (some ad) (n + 1) c) L):=⟨hrow.below (below_alloc (Below.refl _ _) _)⟩
  have rp1:=Aside0.mk rp
  have rt1:=Aside0.mk rt
  have xp : Aside0 ((W.alloc (.cells #[.int .i64 p.f0,.string p.f1,.string p.f2,.string p.f3,.int .i64 p.f4,.slice A5 p.f5.length c5,.slice A6 p.f6.length c6] 24)).heap[W.heap.size]? = some (.cells #[.int .i64 p.f0,.string p.f1,.string p.f2,.string p.f3,.int .i64 p.f4,.slice A5 p.f5.length c5,.slice A6 p.f6.length c6] 24 (0,0))):=⟨blk_new W _⟩
  replace y0 : Aside0 ((W.alloc (.cells #[.int .i64 p.f0,.string p.f1,.string p.f2,.string p.f3,.int .i64 p.f4,.slice A5 p.f5.length c5,.slice A6 p.f6.length c6] 24)).cell? _ = _):=⟨pw_cell_below (below_alloc (Below.refl _ W) _) y0.out⟩
  replace y1 : Aside0 ((W.alloc (.cells #[.int .i64 p.f0,.string p.f1,.string p.f2,.string p.f3,.int .i64 p.f4,.slice A5 p.f5.length c5,.slice A6 p.f6.length c6] 24)).cell? _ = _):=⟨pw_cell_below (below_alloc (Below.refl _ W) _) y1.out⟩
  replace y2 : Aside0 ((W.alloc (.cells #[.int .i64 p.f0,.string p.f1,.string p.f2,.string p.f3,.int .i64 p.f4,.slice A5 p.f5.length c5,.slice A6 p.f6.length c6] 24)).cell? _ = _):=⟨pw_cell_below (below_alloc (Below.refl _ W) _) y2.out⟩
  replace y3 : Aside0 ((W.alloc (.cells #[.int .i64 p.f0,.string p.f1,.string p.f2,.string p.f3,.int .i64 p.f4,.slice A5 p.f5.length c5,.slice A6 p.f6.length c6] 24)).cell? _ = _):=⟨pw_cell_below (below_alloc (Below.refl _ W) _) y3.out⟩
  replace y4 : Aside0 ((W.alloc (.cells #[.int .i64 p.f0,.string p.f1,.string p.f2,.string p.f3,.int .i64 p.f4,.slice A5 p.f5.length c5,.slice A6 p.f6.length c6] 24)).cell? _ = _):=⟨pw_cell_below (below_alloc (Below.refl _ W) _) y4.out⟩
  replace y5 : Aside0 ((W.alloc (.cells #[.int .i64 p.f0,.string p.f1,.string p.f2,.string p.f3,.int .i64 p.f4,.slice A5 p.f5.length c5,.slice A6 p.f6.length c6] 24)).cell? _ = _):=⟨pw_cell_below (below_alloc (Below.refl _ W) _) y5.out⟩
  replace y6 : Aside0 ((W.alloc (.cells #[.int .i64 p.f0,.string p.f1,.string p.f2,.string p.f3,.int .i64 p.f4,.slice A5 p.f5.length c5,.slice A6 p.f6.length c6] 24)).cell? _ = _):=⟨pw_cell_below (below_alloc (Below.refl _ W) _) y6.out⟩
  clear hrow rp rt
  go_enter Tryd.func74,Tryd.ntmps74
  go_upto_region 2 with (fail)
  obtain ⟨V,hV⟩ : ∃ V,V = (W.alloc (.cells #[.int .i64 p.f0,.string p.f1,.string p.f2,.string p.f3,.int .i64 p.f4,.slice A5 p.f5.length c5,.slice A6 p.f6.length c6] 24)):=⟨_,rfl⟩
  rw [← hV] at hB1 hrow1 xp y0 y1 y2 y3 y4 y5 y6 ⊢
  clear hV
  go_cut [5,6] from 12 to 22 (fun v5 v6 w' => Aside0 (JoinPost w V (joinS t p) (.returned (.tuple #[v5,v6])) w'))
  case first =>
   refine wp_region_held_drew (S:=fun W => Below V.heap.size V W) (by kernel_rfl) (below_drew (Below.refl _ _)) (fun _ => ?_)
   have hS:=below_drew (Below.refl V.heap.size V)
   generalize World.drew V = W' at hS ⊢
   refine tkH (v:=?_) 0 (some 13) rfl rfl (by kernel_rfl) (by kernel_rfl) (fun _ _ _ h => h) (fun W' hSW => ?_) hS ?_
   rotate_left
   ·go_simp; (try with_reducible rfl)
   simp only [Act.put,List.setIfInBounds_toArray,List.set_cons_zero,List.set_cons_succ]
   refine tkH (v:=?_) 1 (some 14) rfl rfl (by kernel_rfl) (by kernel_rfl) (fun _ _ _ h => h) (fun W' hSW => ?_) hS ?_
   rotate_left
   ·go_simp; (try with_reducible rfl)
   simp only [Act.put,List.setIfInBounds_toArray,List.set_cons_zero,List.set_cons_succ]
   refine tkH (v:=?_) 2 (some 15) rfl rfl (by kernel_rfl) (by kernel_rfl) (fun _ _ _ h => h) (fun W' hSW => ?_) hS ?_
   rotate_left
   ·go_simp; (try with_reducible rfl)
   simp only [Act.put,List.setIfInBounds_toArray,List.set_cons_zero,List.set_cons_succ]
   refine tkH (v:=?_) 3 (some 16) rfl rfl (by kernel_rfl) (by kernel_rfl) (fun _ _ _ h => h) (fun W' hSW => ?_) hS ?_
   rotate_left
   ·go_simp; (try with_reducible rfl)
   simp only [Act.put,List.setIfInBounds_toArray,List.set_cons_zero,List.set_cons_succ]
   refine tkH (v:=?_) 4 (some 17) rfl rfl (by kernel_rfl) (by kernel_rfl) (fun _ _ _ h => h) (fun W' hSW => ?_) hS ?_
   rotate_left
   ·go_simp; (try with_reducible rfl)
   simp only [Act.put,List.setIfInBounds_toArray,List.set_cons_zero,List.set_cons_succ]
   refine tkH (v:=?_) 5 (some 18) rfl rfl (by kernel_rfl) (by kernel_rfl) (fun _ _ _ h => h) (fun W' hSW => ?_) hS ?_
   rotate_left
   ·have q0:=pw_cell_below hSW y0.out; have q1:=pw_cell_below hSW y1.out; have q2:=pw_cell_below hSW y2.out; have q3:=pw_cell_below hSW y3.out; have q4:=pw_cell_below hSW y4.out; have q5:=pw_cell_below hSW y5.out; have q6:=pw_cell_below hSW y6.out; go_simp; (try with_reducible rfl)
   simp only [Act.put,List.setIfInBounds_toArray,List.set_cons_zero,List.set_cons_succ]
   refine tkH (v:=?_) 6 (some 19) rfl rfl (by kernel_rfl) (by kernel_rfl) (fun _ _ _ h => h) (fun W' hSW => ?_) hS ?_
   rotate_left
   ·obtain ⟨k0,k1,k2,k3,k4,k5,k6⟩:=cells7 (blk_below xp.out hSW); go_simp; (try with_reducible rfl)
   simp only [Act.put,List.setIfInBounds_toArray,List.set_cons_zero,List.set_cons_succ]
   refine wpAnyH_ready (rs:=[7]) (by kernel_rfl) (by simp) (AllReadyH.cons rfl (fun K hK => ?_) AllReadyH.nil)
   go_simp
   refine (join_at t p X5 x5 X6 x6 A5 c5 A6 c6 _ w (hB1.out.trans (hS.mono hB1.out.size)) ot hp rt1.out rp1.out).mono ?_
   rintro e W2 hJ
   obtain ⟨a5,a6,rfl,hb⟩:=join_tuple hJ
   replace hJ:=Aside0.mk (join_wide hS hJ)
   replace hS:=hS.trans (hb.mono hS.size)
   clear hb
   refine hK.out _ _ hS (fun _ => ?_)
   clear hK K
   refine tkH (v:=?_) 8 (some 12) rfl rfl (by kernel_rfl) (by kernel_rfl) (fun _ _ _ h => h) (fun W' hSW => ?_) hS ?_
   rotate_left
   ·go_simp; (try with_reducible rfl)
   simp only [Act.put,List.setIfInBounds_toArray,List.set_cons_zero,List.set_cons_succ]
   refine tkH (v:=?_) 9 (some 21) rfl rfl (by kernel_rfl) (by kernel_rfl) (fun _ _ _ h => h) (fun W' hSW => ?_) hS ?_
   rotate_left
   ·go_simp; (try with_reducible rfl)
   simp only [Act.put,List.setIfInBounds_toArray,List.set_cons_zero,List.set_cons_succ]
   refine tkH (v:=?_) 10 (some 22) rfl rfl (by kernel_rfl) (by kernel_rfl) (fun _ _ _ h => h) (fun W' hSW => ?_) hS ?_
   rotate_left
   ·go_simp; (try with_reducible rfl)
   simp only [Act.put,List.setIfInBounds_toArray,List.set_cons_zero,List.set_cons_succ]
   refine tkH (v:=?_) 11 (some 5) rfl rfl (by kernel_rfl) (by kernel_rfl) (fun _ _ _ h => h) (fun W' hSW => ?_) hS ?_
   rotate_left
   ·go_simp; (try with_reducible rfl)
   simp only [Act.put,List.setIfInBounds_toArray,List.set_cons_zero,List.set_cons_succ]
   refine tkH (v:=?_) 12 (some 6) rfl rfl (by kernel_rfl) (by kernel_rfl) (fun _ _ _ h => h) (fun W' hSW => ?_) hS ?_
   rotate_left
   ·go_simp; (try with_reducible rfl)
   simp only [Act.put,List.setIfInBounds_toArray,List.set_cons_zero,List.set_cons_succ]
   refine wpAnyH_done (by kernel_rfl) ?_ _
   go_wp2
   go_meet
   case rel => exact hJ
  case rest =>
   replace hcut:=hcut.out
   have hbc:=(join_tuple hcut).choose_spec.choose_spec.2
   have hB2:=Aside0.mk (hB1.out.trans (hbc.mono hB1.out.size))
   have hrow2:=Aside0.mk (hrow1.out.below hbc)
   have xp2:=blk_below xp.out hbc
   have htk : Aside0 (Row w wc (.slice (some ad) n c) r.reverse):=⟨by rw [← hLk.out]; exact row_take hrow2.out n htm.out⟩
   clear hrow1 hB1 xp hbc y0 y1 y2 y3 y4 y5 y6
   have hsl : ∀ W,(Instr.slice 25 (.slice (some ad) (n + 1) c) none (some (.int .i64 (n : Int))) none).run Tryd.prog W = .ok (.slice (some ad) n c) W:=row_cut ad n c hc
   cases hj : joinS t p with
   | none =>
    have hput : Aside0 ((putS (t :: r) p).reverse = L ++ [p]):=⟨by rw [putS,hj,hL.out,List.reverse_cons]⟩
    rw [hj] at hcut
    clear hj hsl htk
    obtain ⟨he,-⟩:=hcut
    obtain ⟨rfl,rfl⟩:=tuple2 he
    clear he
    obtain ⟨k0,k1,k2,k3,k4,k5,k6⟩:=cells7 xp2
    go_wp2_with (((with_reducible refine gate_builtin (b:=.append) (xs:=#[.tmp 40,.tmp 42]) rfl ?_); at_builtin; refine OwnRow.append (R:=Rw w) (w0:=w) w.heap.size rfl (.tmp 40) (.tmp 42) 25 24 (.agg #[(.int .i64 0),(.string ⟨#[]⟩),(.string ⟨#[]⟩),(.string ⟨#[]⟩),(.int .i64 0),(.slice none 0 0),(.slice none 0 0)]) 7 112 rfl Tryd.underlying25 infoR rfl (by decide) (by omega) (.slice (some ad) (n + 1) c) L p [.int .i64 p.f0,.string p.f1,.string p.f2,.string p.f3,.int .i64 p.f4,.slice A5 p.f5.length c5,.slice A6 p.f6.length c6] rfl ?aX ?aP rfl (rw_one (w:=w)) ?aO ?aB ?aS ?aL ?_; (case aX => rfl); (case aP => exact ⟨_,_,_,_,rfl,rp1.out⟩); (case aO => exact hrow2.out); (case aB => exact hB2.out); (case aS => exact hB2.out.size); (case aL => exact hLA.out); intro v1 w3 hR hb3 hg hat))
    go_ret
    exact ⟨v1,rfl,by rw [hput.out]; exact hR,hb3⟩
   | some y =>
    cases y with
    | none =>
     have hput : Aside0 ((putS (t :: r) p).reverse = r.reverse):=⟨by rw [putS,hj]⟩
     rw [hj] at hcut
     clear hj
     obtain ⟨he,-⟩:=hcut
     obtain ⟨rfl,rfl⟩:=tuple2 he
     clear he
     go_wp2
     go_loopg [0,31] 0 (fun kq v0 v31 w' => v31 = .int .i64 0 ∧ v0 = .slice (some ad) n c ∧ w' = wc)
     case atStart => exact ⟨rfl,rfl,rfl⟩
     case round =>
      obtain ⟨rfl,rfl,rfl⟩:=hrel
      go_wp2
      go_ret
      exact ⟨_,rfl,by rw [hput.out]; exact htk.out,hB2.out⟩
    | some x =>
     have hput : Aside0 ((putS (t :: r) p).reverse = (putS r x).reverse):=⟨by rw [putS,hj]⟩
     have ox:=joinS_okp ot hp hj
     rw [hj] at hcut
     clear hj
     obtain ⟨g,Y5,y5,Y6,y6,he,xg,rx,-⟩:=hcut
     obtain ⟨rfl,rfl⟩:=tuple2 he
     clear he
     replace rx:=Aside0.mk rx
     replace xg:=Aside0.mk xg
     go_wp2
     go_loopg [0,31] 1 (fun kq v0 v31 w' => (v31 = .int .i64 0 ∧ v0 = .slice (some ad) n c ∧ w' = wc ∧ kq = 1) ∨ (v31 = .int .i64 1 ∧ Aside0 (Row w w' v0 (putS r x).reverse) ∧ Aside0 (Below w.heap.size w w')))
     case atStart => exact .inl ⟨rfl,rfl,rfl,rfl⟩
     case round =>
      rcases hrel with ⟨rfl,rfl,rfl,rfl⟩ | ⟨rfl,hR,hB3⟩
      ·obtain ⟨k0,k1,k2,k3,k4,k5,k6⟩:=cells7 xg.out
       go_wp2_with (fail)
       refine (ih.out _ _ x Y5 y5 Y6 y6 (below_alloc hB2.out _) (htk.out.below (below_alloc (Below.refl _ _) _)) hsr.out ox rx.out hlr.out).mono ?_
       rintro e w4 ⟨v4,rfl,hR4,hB4⟩
       replace hR4:=Aside0.mk hR4
       replace hB4:=Aside0.mk hB4
       clear k0 k1 k2 k3 k4 k5 k6
       go_wp2
       go_roundg 0
       case measure => omega
       case rel => exact .inr ⟨rfl,hR4,hB4⟩
      ·go_wp2
       go_ret
       exact ⟨_,rfl,by rw [hput.out]; exact hR.out,hB3.out⟩
theorem putS_okp : ∀ (s : List S24) (p : S24),(∀ x ∈ s,Okp x) → Okp p → ∀ x ∈ putS s p,Okp x
 | [],p,_,hp => by
  intro x hx
  simp only [putS,List.mem_cons,List.not_mem_nil,or_false] at hx
  exact hx ▸ hp
 | t :: r,p,hs,hp => by
  intro x hx
  rw [putS] at hx
  cases hj : joinS t p with
  | none =>
   rw [hj] at hx
   rcases List.mem_cons.1 hx with rfl | h
   ·exact hp
   ·exact hs x h
  | some y =>
   cases y with
   | none => rw [hj] at hx; exact hs x (List.mem_cons_of_mem _ hx)
   | some z => rw [hj] at hx; exact putS_okp r z (fun x hx => hs x (List.mem_cons_of_mem _ hx)) (joinS_okp (hs t (List.mem_cons_self ..)) hp hj) x hx
theorem putS_len : ∀ (s : List S24) (p : S24),(putS s p).length ≤ s.length + 1
 | [],p => by simp [putS]
 | t :: r,p => by
  rw [putS]
  cases hj : joinS t p with
  | none => simp
  | some y =>
   cases y with
   | none => simp; omega
   | some z => have:=putS_len r z; simp only [List.length_cons]; omega
theorem stack_take (l : List S24) (i : Nat) (hi : i < l.length) : stackS [] (l.take (i + 1)) = putS (stackS [] (l.take i)) l[i]:=by
 unfold stackS
 rw [List.take_succ_eq_append_getElem hi,List.foldl_append]
 rfl
set_option maxHeartbeats 4000000 in
set_option maxRecDepth 100000 in
theorem coal_at (l : List S24) (A : Option Addr) (c : Nat) (w : World) (hl : ∀ x ∈ l,Okp x) (hn : l.length + 1 ≤ 1256584717458) (gl : Kd.C k24 w A l.length l) (hlc : l.length ≤ c) :
  Calls Tryd.prog 42 #[.slice A l.length c] w (fun e w' => ∃ v,e = .returned v ∧ Row w w' v (coalS l) ∧ Below w.heap.size w w'):=by
 go_enter Tryd.func42,Tryd.ntmps42
 go_wp2
 go_loopg [3,8] l.length (fun kq v3 v8 w' => ∃ (i : Nat) (s : List S24),v8 = .int .i64 (i : Int) ∧ Aside0 (i + kq = l.length) ∧ Aside0 (s = stackS [] (l.take i)) ∧ Aside0 (∀ x ∈ s,Okp x) ∧ Aside0 (s.length ≤ i) ∧ Aside0 (Row w w' v3 s.reverse) ∧ Aside0 (Below w.heap.size w w'))
 case atStart => exact ⟨0,[],rfl,⟨by omega⟩,⟨rfl⟩,⟨fun _ h => absurd h List.not_mem_nil⟩,⟨Nat.le_refl _⟩,⟨row_nil _ _⟩,⟨Below.refl _ _⟩⟩
 case round =>
  obtain ⟨i,s,rfl,hk,hs,hok,hlen,hR,hB⟩:=hrel
  by_cases hi : i < l.length
  ·have c1b : decide ((i : Int) < (l.length : Int)) = true:=decide_eq_true (by omega)
   obtain ⟨ad,X5,x5,X6,x6,eA,y0,y1,y2,y3,y4,y5,y6,l5,g5,l6,g6⟩:=at_T24 gl (i : Int) (by omega) (by omega)
   obtain ⟨x,hx⟩ : ∃ x,rd_T24 l (i : Int) = x:=⟨_,rfl⟩
   rw [hx] at y0 y1 y2 y3 y4 y5 y6 l5 g5 l6 g6
   have hxm : x = l[i]:=by rw [← hx,rd_T24_get l hi]
   have rx : Aside0 (Rd w x X5 x5 X6 x6):=⟨⟨g5,l5,g6,l6⟩⟩
   have hox : Okp x:=by rw [hxm]; exact hl _ (List.getElem_mem hi)
   have hnx : Aside0 (putS s x = stackS [] (l.take (i + 1))):=⟨by rw [stack_take l i hi,hs.out,hxm]⟩
   have hln : Aside0 (s.length + 1 ≤ 1256584717458):=⟨by have:=hlen.out; omega⟩
   have hbW:=hB.out
   have i0 : (0 : Int) ≤ (i : Int):=by omega
   have i1 : (i : Int) < (l.length : Int):=by omega
   have z0:=pw_cell_below hbW y0
   have z1:=pw_cell_below hbW y1
   have z2:=pw_cell_below hbW y2
   have z3:=pw_cell_below hbW y3
   have z4:=pw_cell_below hbW y4
   have z5:=pw_cell_below hbW y5
   have z6:=pw_cell_below hbW y6
   simp only [Int.toNat_natCast] at z0 z1 z2 z3 z4 z5 z6
   clear y0 y1 y2 y3 y4 y5 y6 l5 g5 l6 g6 hx hxm
   subst eA
   have hwi : IntKind.i64.wrap ((i : Int) + 1) = ((i + 1 : Nat) : Int):=by rw [wrap_small _ (by omega) (by omega)]; omega
   clear hbW
   go_wp2_with (fail)
   refine (put_at w s _ _ x X5 x5 X6 x6 (below_alloc hB.out _) (hR.out.below (below_alloc (Below.refl _ _) _)) hok.out hox rx.out hln.out).mono ?_
   rintro e w4 ⟨v4,rfl,hR4,hB4⟩
   replace hR4:=Aside0.mk hR4
   replace hB4:=Aside0.mk hB4
   clear z0 z1 z2 z3 z4 z5 z6
   go_wp2
   go_roundg (l.length - (i + 1))
   case measure => have:=hk.out; omega
   case rel => exact ⟨i + 1,putS s x,by simp,⟨by omega⟩,hnx,⟨putS_okp s x hok.out hox⟩,⟨by have:=putS_len s x; have:=hlen.out; omega⟩,hR4,hB4⟩
  ·have c1b : decide ((i : Int) < (l.length : Int)) = false:=decide_eq_false (by omega)
   have hil : i = l.length:=by have:=hk.out; omega
   have hfin : Aside0 (s.reverse = coalS l):=⟨by rw [hs.out,hil,List.take_length]; rfl⟩
   go_wp2
   go_ret
   exact ⟨_,rfl,by rw [← hfin.out]; exact hR.out,hB.out⟩
end Go.Proofs.YthhohbidjhcjeaaDoor.H
namespace Go.Proofs.YthhohbidjhcjeaaDoor.H
open Go.RowKit Go.Proofs.YthhohbidjhcjeaaDoorW.PrintWords Go.Proofs.YthhohbidjhcjeaaDoorW.PrintLast Go.Proofs.YthhohbidjhcjeaaDoorW.PrintMore
open Go.Proofs.YthhohbidjhcjeaaDoor.Q Go.Proofs.YthhohbidjhcjeaaDoor.Pl
set_option linter.unusedSimpArgs false
set_option linter.unusedVariables false
theorem reps_one {w : World} {ps : List S24} {inner : List Value} (h : Reps (Rw w) 7 ps inner) : ∀ u ∈ inner,u.oneCell' = true:=by
 intro u hu
 obtain ⟨j,hj,rfl⟩:=List.getElem_of_mem hu
 have hl:=h.1
 have hq : j / 7 < ps.length:=by omega
 obtain ⟨X5,x5,X6,x6,he,rx⟩:=h.2 (j / 7) _ (List.getElem?_eq_getElem hq)
 have hm : inner[j] ∈ (inner.drop (j / 7 * 7)).take 7:=by
  refine List.mem_of_getElem? (i:=j % 7) ?_
  rw [List.getElem?_take_of_lt (by omega),List.getElem?_drop,show j / 7 * 7 + j % 7 = j by omega]
  exact List.getElem?_eq_getElem hj
 rw [he] at hm
 exact rw_one (w:=w) _ hm
theorem rows_rw {w W : World} {A : Option Addr} {n : Nat} {xs : List S24} (h : Kd.C k24 w A n xs) (hb : Below w.heap.size w W) : ReadsRow (Rw w) 7 W A n xs:=by
 refine ReadsRow.imp_ h hb ?_
 intro p c hk
 obtain ⟨A5,c5,A6,c6,rfl,l5,g5,l6,g6⟩:=k24_open hk
 exact ⟨A5,c5,A6,c6,rfl,⟨g5,l5,g6,l6⟩⟩
end Go.Proofs.YthhohbidjhcjeaaDoor.H
namespace Go.Proofs
open Go.Shelf
def Tryd.growP_ren : Go.Shelf.Ren := ⟨fun | 4 => 97 | n => n, fun | 22 => 25 | 25 => 24 | 3 => 3 | 4 => 4 | 9 => 9 | 20 => 20 | 0 => 0 | n => n, fun | n => n⟩
theorem Tryd.growP : Go.Proofs.Lays8.n4 Tryd.prog Tryd.growP_ren := {
  mixed := by kernel_rfl
  f4 := ⟨Tryd.f97.name, by decide, Tryd.func97.trans (congrArg some (by kernel_rfl))⟩
  t0 := Tryd.underlying0
  a0 := Tryd.isAgg0
  z0 := Tryd.sizeOf0
  v0 := Tryd.zeroValue0
  t3 := Tryd.underlying3
  a3 := Tryd.isAgg3
  z3 := Tryd.sizeOf3
  v3 := Tryd.zeroValue3
  t4 := Tryd.underlying4
  a4 := Tryd.isAgg4
  z4 := Tryd.sizeOf4
  v4 := Tryd.zeroValue4
  t9 := Tryd.underlying9
  a9 := Tryd.isAgg9
  z9 := Tryd.sizeOf9
  v9 := Tryd.zeroValue9
  t20 := Tryd.underlying20
  a20 := Tryd.isAgg20
  z20 := Tryd.sizeOf20
  v20 := Tryd.zeroValue20
  t22 := Tryd.underlying25
  a22 := Tryd.isAgg25
  z22 := Tryd.sizeOf25
  v22 := Tryd.zeroValue25 }
end Go.Proofs
namespace Go.Proofs.YthhohbidjhcjeaaDoor.H
open Go.RowKit Go.Proofs.YthhohbidjhcjeaaDoorW.PrintWords Go.Proofs.YthhohbidjhcjeaaDoorW.PrintLast Go.Proofs.YthhohbidjhcjeaaDoorW.PrintMore
open Go.Proofs.YthhohbidjhcjeaaDoor.Q Go.Proofs.YthhohbidjhcjeaaDoor.Pl
set_option linter.unusedSimpArgs false
set_option linter.unusedVariables false
theorem grow_at (w : World) (n : Nat) (W : World) (hB : Below w.heap.size w W) (hn : n ≤ 1256584717458) :
  Calls Tryd.prog 97 #[.slice none 0 0,.int .i64 (n : Int)] W fun e W' => ∃ v,e = .returned v ∧ Row w W' v [] ∧ Below w.heap.size w W':=by
 rcases Nat.eq_zero_or_pos n with rfl | hp
 ·refine (Any8.slices_Grow_room Tryd.growP none 0 0 0 W (Nat.le_refl _) (by decide) (by decide) (Nat.le_refl _)).mono ?_
  rintro e W' ⟨rfl,rfl⟩
  exact ⟨_,rfl,row_nil _ _,hB⟩
 ·obtain ⟨i0,hi,hz0,hz1,hz2⟩:=info_parts infoR
  refine (Any8.slices_Grow_grow Tryd.growP i0 _ hi hz0 (by omega) none 0 0 n [] W (Nat.le_refl _) (by omega) (by rw [hz2,Nat.zero_add]; exact Nat.le_trans (Nat.mul_le_mul_right 112 hn) (by decide)) (by omega) (by simp) (fun _ => rfl) (fun a h => by cases h)).mono ?_
  rintro e W' ⟨rfl,rfl⟩
  refine ⟨_,rfl,⟨[],⟨by simp,Or.inr ⟨W.heap.size,_,_,rfl,hB.size,blk_new W.drew _,Nat.zero_le _,grownCap_le_maxLen _ _ _ _ (by unfold maxLen; omega),?_,by simp⟩⟩,Reps.none _ _⟩,below_alloc hB.drew _⟩
  have hg:=grownCap_ge W (0 + n) 0 (Tryd.growP_ren.t 25)
  simp only [Array.size_append,size_zeroCells]
  show 0 + (0 + n - 0) * 7 + (grownCap W (0 + n) 0 (Tryd.growP_ren.t 25) - (0 + n)) * 7 = grownCap W (0 + n) 0 (Tryd.growP_ren.t 25) * 7
  generalize grownCap W (0 + n) 0 (Tryd.growP_ren.t 25) = g at hg
  omega
end Go.Proofs.YthhohbidjhcjeaaDoor.H
namespace Go.Proofs.YthhohbidjhcjeaaDoor.H
open Go.RowKit Go.Proofs.YthhohbidjhcjeaaDoorW.PrintWords Go.Proofs.YthhohbidjhcjeaaDoorW.PrintLast Go.Proofs.YthhohbidjhcjeaaDoorW.PrintMore
open Go.Proofs.YthhohbidjhcjeaaDoor.Q Go.Proofs.YthhohbidjhcjeaaDoor.Pl
set_option linter.unusedSimpArgs false
set_option linter.unusedVariables false
def flatS (rs : List (Option Addr × Nat × List S24)) : List S24:=rs.flatMap (fun r => r.2.2)
theorem flat_take (rs : List (Option Addr × Nat × List S24)) (i : Nat) (hi : i < rs.length) : flatS (rs.take (i + 1)) = flatS (rs.take i) ++ rs[i].2.2:=by
 unfold flatS
 rw [List.take_succ_eq_append_getElem hi,List.flatMap_append]
 simp
theorem flat_le (rs : List (Option Addr × Nat × List S24)) (i : Nat) : (flatS (rs.take i)).length ≤ (flatS rs).length:=by
 unfold flatS
 conv => rhs; rw [← List.take_append_drop i rs,List.flatMap_append,List.length_append]
 omega
theorem reps_app {α : Type} {R : α → List Value → Prop} {size : Nat} {ps qs : List α} {cs ds : List Value} (h : Reps R size ps cs) (k : Reps R size qs ds) : Reps R size (ps ++ qs) (cs ++ ds):=by
 refine ⟨by rw [List.length_append,h.1,k.1,List.length_append,Nat.add_mul],fun j p hp => ?_⟩
 have hl:=h.1
 rcases Nat.lt_or_ge j ps.length with hj | hj
 ·rw [List.getElem?_append_left hj] at hp
  have hm : (j + 1) * size ≤ ps.length * size:=Nat.mul_le_mul_right _ hj
  rw [Nat.add_mul,Nat.one_mul] at hm
  rw [List.drop_append_of_le_length (by omega),List.take_append_of_le_length (by rw [List.length_drop]; omega)]
  exact h.2 j p hp
 ·rw [List.getElem?_append_right hj] at hp
  have hm : j * size = ps.length * size + (j - ps.length) * size:=by rw [← Nat.add_mul,Nat.add_sub_cancel' hj]
  rw [hm,← hl,List.drop_append]
  simp only [Nat.le_add_right,List.drop_eq_nil_of_le,List.nil_append,Nat.add_sub_cancel_left]
  exact k.2 _ p hp
set_option maxHeartbeats 4000000 in
set_option maxRecDepth 100000 in
theorem concat_at (rs : List (Option Addr × Nat × List S24)) (g c : Nat) (W : World) (hg : ∀ j r,rs[j]? = some r → W.cell? ⟨g,j,none⟩ = some (.slice r.1 r.2.2.length r.2.1)) (hr : ∀ r ∈ rs,ReadsRow (Rw W) 7 W r.1 r.2.2.length r.2.2) (hn : (flatS rs).length ≤ 1256584717458) (hrs : rs.length ≤ 1000) :
  Calls Tryd.prog 73 #[.slice (some ⟨g,0,none⟩) rs.length c] W fun e W' => ∃ v,e = .returned v ∧ Row W W' v (flatS rs) ∧ Below W.heap.size W W':=by
 replace hg:=Aside0.mk hg
 replace hr:=Aside0.mk hr
 go_enter Tryd.func73,Tryd.ntmps73
 go_wp2
 go_loopg [3,11] rs.length (fun kq v3 v11 w' => ∃ (i : Nat),v11 = .int .i64 (i : Int) ∧ v3 = .int .i64 ((flatS (rs.take i)).length : Int) ∧ Aside0 (i + kq = rs.length) ∧ W = w')
 case atStart => exact ⟨0,rfl,rfl,⟨by omega⟩,rfl⟩
 case round =>
  obtain ⟨i,rfl,rfl,hk,rfl⟩:=hrel
  by_cases hi : i < rs.length
  ·have c1b : decide ((i : Int) < (rs.length : Int)) = true:=decide_eq_true (by omega)
   have i0 : (0 : Int) ≤ (i : Int):=by omega
   have i1 : (i : Int) < (rs.length : Int):=by omega
   have hx:=hg.out i _ (List.getElem?_eq_getElem hi)
   have hf:=flat_take rs i hi
   have hle:=flat_le rs (i + 1)
   rw [hf,List.length_append] at hle
   have hwi : IntKind.i64.wrap ((i : Int) + 1) = (i : Int) + 1:=wrap_small _ (by omega) (by omega)
   have hws : IntKind.i64.wrap (((flatS (rs.take i)).length : Int) + (rs[i].2.2.length : Int)) = ((flatS (rs.take i)).length : Int) + (rs[i].2.2.length : Int):=wrap_small _ (by omega) (by omega)
   have hneg : decide (((flatS (rs.take i)).length : Int) + (rs[i].2.2.length : Int) < 0) = false:=decide_eq_false (by omega)
   replace hf:=Aside0.mk hf
   clear hle
   go_wp2
   go_roundg (rs.length - (i + 1))
   case measure => have:=hk.out; omega
   case rel => exact ⟨i + 1,by simp,by rw [hf.out,List.length_append]; simp,⟨by omega⟩,rfl⟩
  ·have c1b : decide ((i : Int) < (rs.length : Int)) = false:=decide_eq_false (by omega)
   have hil : i = rs.length:=by have:=hk.out; omega
   have hfl : flatS (rs.take i) = flatS rs:=by rw [hil,List.take_length]
   rw [hfl]
   clear hfl hk
   go_wp2_with (fail)
   refine (grow_at W (flatS rs).length W (Below.refl _ _) hn).mono ?_
   rintro e w2 ⟨v,rfl,hR,hB⟩
   replace hR:=Aside0.mk hR
   replace hB:=Aside0.mk hB
   go_wp2
   obtain ⟨i0',hi',hz0,hz1,hz2⟩:=info_parts infoR
   replace hi':=Aside0.mk hi'
   replace hz0:=Aside0.mk hz0
   replace hz1:=Aside0.mk hz1
   replace hz2:=Aside0.mk hz2
   go_loopg [6,27] rs.length (fun kq v6 v27 w' => ∃ (i : Nat),v27 = .int .i64 (i : Int) ∧ Aside0 (i + kq = rs.length) ∧ Aside0 (Row W w' v6 (flatS (rs.take i))) ∧ Aside0 (Below W.heap.size W w'))
   case atStart => exact ⟨0,rfl,⟨by omega⟩,hR,hB⟩
   case round =>
    clear i hi c1b hil hR hB
    obtain ⟨i,rfl,hk,hR,hB⟩:=hrel
    by_cases hi : i < rs.length
    ·have c1b : decide ((i : Int) < (rs.length : Int)) = true:=decide_eq_true (by omega)
     have i0 : (0 : Int) ≤ (i : Int):=by omega
     have i1 : (i : Int) < (rs.length : Int):=by omega
     have hx:=pw_cell_below hB.out (hg.out i _ (List.getElem?_eq_getElem hi))
     have hrr:=hr.out _ (List.getElem_mem hi)
     have hf:=flat_take rs i hi
     have hle:=flat_le rs (i + 1)
     rw [hf,List.length_append] at hle
     have hwi : IntKind.i64.wrap ((i : Int) + 1) = (i : Int) + 1:=wrap_small _ (by omega) (by omega)
     replace hf:=Aside0.mk hf
     obtain ⟨⟨A,c2,xs⟩,hrx⟩ : ∃ r,r = rs[i]:=⟨_,rfl⟩
     rw [← hrx] at hx hrr hf hle
     clear hrx
     simp only at hx hrr hf hle
     cases A with
     | none =>
      have hl0 : xs = []:=List.eq_nil_of_length_eq_zero (by
       rcases Nat.eq_zero_or_pos xs.length with h0 | h0
       ·exact h0
       ·obtain ⟨ad,he,_⟩:=hrr.2.2 h0
        cases he)
      subst hl0
      obtain ⟨A6,c6,rfl,hc6⟩:=hR.out.slice
      clear hrr hle
      go_wp2
      all_goals (try simp only [Sem.run_pure,Result.andThen_ok])
      all_goals go_wp2
      all_goals
       go_roundg (rs.length - (i + 1))
       case measure => have:=hk.out; omega
       case rel => exact ⟨i + 1,by simp,⟨by omega⟩,⟨by rw [hf.out,List.append_nil]; exact hR.out⟩,hB⟩
     | some ad =>
      obtain ⟨inner,hri,hci⟩:=hrr.inner_
      obtain ⟨inner6,hown,hr6⟩:=hR.out
      have h1:=Aside0.mk (reps_one hri)
      have hl:=Aside0.mk hri.1
      have hn1 : Aside0 ((flatS (rs.take i)).length + xs.length ≤ maxLen):=⟨by unfold maxLen; omega⟩
      have hn2 : Aside0 (((flatS (rs.take i)).length + xs.length) * 112 ≤ 140737488355328):=⟨Nat.le_trans (Nat.mul_le_mul_right 112 (Nat.le_trans hle hn)) (by decide)⟩
      replace hown:=Aside0.mk hown
      replace hr6:=Aside0.mk hr6
      replace hri:=Aside0.mk hri
      replace hci:=Aside0.mk hci
      clear hrr hle
      go_wp2_with (at_builtin; refine wpList_append_own_at _ rfl _ _ 25 rfl W.heap.size 24 i0' _ 7 112 Tryd.underlying25 hi'.out hz0.out hz1.out hz2.out rfl (by omega) _ _ _ rfl hown.out ad xs.length c2 inner rfl hl.out ?qc2 h1.out hn1.out hn2.out hB.out.size ?_)
      case qc2 => exact fun j u hj => pw_cell_below hB.out (hci.out j u hj)
      intro v' w1 hown1 hgrow hnil hblk
      have hB1 : Aside0 (Below W.heap.size W w1):=⟨hB.out.grown hgrow hB.out.size (by
       intro k hk
       rcases hown.out.2 with ⟨rfl,_⟩ | ⟨g6,cap,cur,rfl,hb,_⟩
       ·cases hk
       ·simp [Value.ownBlock] at hk; omega)⟩
      have hR1 : Aside0 (Row W w1 v' (flatS (rs.take (i + 1)))):=⟨by
       rw [hf.out]
       exact ⟨inner6 ++ inner,by rw [List.length_append]; exact hown1,reps_app hr6.out hri.out⟩⟩
      clear hown1 hgrow hnil hblk
      go_wp2
      go_roundg (rs.length - (i + 1))
      case measure => have:=hk.out; omega
      case rel => exact ⟨i + 1,by simp,⟨by omega⟩,hR1,hB1⟩
    ·have c1b : decide ((i : Int) < (rs.length : Int)) = false:=decide_eq_false (by omega)
     have hil : i = rs.length:=by have:=hk.out; omega
     have hfl : Aside0 (flatS (rs.take i) = flatS rs):=⟨by rw [hil,List.take_length]⟩
     clear hk
     go_wp2
     go_ret
     exact ⟨_,rfl,by rw [← hfl.out]; exact hR.out,hB.out⟩
end Go.Proofs.YthhohbidjhcjeaaDoor.H
