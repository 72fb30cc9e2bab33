/- Printed by a program of this place out of the translation: what the functions compute, and their contracts. -/
import Derived.Test.YthhohbidjhcjeaaDoorVM1
import Derived.Shelf.Small.Utf8
import Derived.Shelf.Small.Strs
import Derived.Shelf.Small.Wraps
import Derived.Shelf.Strings.Search1
import Derived.Shelf.Strings.Search2
import Derived.Shelf.Strings.Search3
import Derived.Shelf.LaysM
import Derived.Shelf.Strings.Shaped
import Derived.Shelf.Strings.LastIndex
import Derived.Shelf.GgClosure.StringsIndexFunc
import Derived.Ground.GgwProg
import Derived.Shelf.GgClosure.StringsIndexFuncTop
import Derived.Shelf.GgClosure.StringsRunes
import Derived.Shelf.Strings.Prefix
import Derived.Shelf.Unicode.Decode
import Derived.Shelf.Strings.Runes
import Derived.Shelf.Unicode.DecodeSlow
import Derived.Shelf.Unicode.DecodeAny
import Derived.Shelf.Strings.FuncGrows
import Derived.Shelf.Slices.Equal
import Derived.Test.YthhohbidjhcjeaaDoorProg
import Derived.RangeFuncNested
import Derived.RangeFuncBound
import Derived.RangeFuncLeaves
import Derived.Laws.Runes
import Derived.Laws.RangeAny
import Derived.Lib.OthersKept
import Derived.Deep.LoopGhost
import Derived.WalkKit
import Derived.WalkMore
import Derived.Tactics
import Derived.KernelRfl
import Derived.Lib.IndexLaws
import Derived.Shelf.Abstract
import Derived.Shelf.RegionOpen
import Derived.OwnWalkIn
import Derived.TacticsInMore
import Derived.LoopNIn
import Derived.LoopIn
import Derived.Outline
import Derived.Lib.Hide
import Derived.RangeFuncCalls
import Derived.Test.YthhohbidjhcjeaaDoorVWd
import Derived.Deep.RegionWith
import Derived.Laws.Strings
import Derived.Test.YthhohbidjhcjeaaDoorRows
namespace Go.Proofs.YthhohbidjhcjeaaDoor.Q
open Go.RowKit Go.Proofs.YthhohbidjhcjeaaDoorW.PrintWords Go.Proofs.YthhohbidjhcjeaaDoorW.PrintLast Go.Proofs.YthhohbidjhcjeaaDoorW.PrintMore
attribute [local go_sem] max2_int min2_int max_two min_two max_three min_three max_four min_four   -- for this text's walks alone
set_option linter.unusedVariables false
set_option linter.unusedSimpArgs false

/-! ### stringslite_HasPrefix: function 132 -/
def stringslite_HasPrefix.f (a0 : ByteArray) (a1 : ByteArray) : Option (Bool):=if (a0.size : Int) ≥ (a1.size : Int) then (if 0 ≤ (a1.size : Int) then (if (a1.size : Int) ≤ (a0.size : Int) then (some ((a0.extract 0 ((a1.size : Int) : Int).toNat).toList == a1.toList)) else (none)) else (none)) else (some false)
set_option maxHeartbeats 8000000 in
set_option maxRecDepth 100000 in
theorem stringslite_HasPrefix.calls (a0 : ByteArray) (a1 : ByteArray) (r : Bool) (w : World) (h : stringslite_HasPrefix.f a0 a1 = some r) :
  Calls Tryd.prog 132 #[.string a0,.string a1] w fun e w' => e = .returned (.bool r) ∧ Drawn0 w w':=by
 have H : (if (a0.size : Int) ≥ (a1.size : Int) then (if 0 ≤ (a1.size : Int) then (if (a1.size : Int) ≤ (a0.size : Int) then (some ((a0.extract 0 ((a1.size : Int) : Int).toNat).toList == a1.toList)) else (none)) else (none)) else (some false)) = some r:=h
 clear h
 by_cases c3 : (a0.size : Int) ≥ (a1.size : Int)
 ·rw [if_pos c3] at H
  have c3b0 : decide ((a1.size : Int) ≤ (a0.size : Int)) = true:=decide_eq_true c3
  have c3b1 : decide (a1.size ≤ a0.size) = true:=decide_eq_true (Int.ofNat_le.mp c3)
  clear c3
  by_cases c4 : 0 ≤ (a1.size : Int)
  ·rw [if_pos c4] at H
   have c4b0:=eq_true c4
   have c4b1 : decide (0 ≤ (a1.size : Int)) = true:=decide_eq_true c4
   clear c4
   by_cases c5 : (a1.size : Int) ≤ (a0.size : Int)
   ·rw [if_pos c5] at H
    have c5b0:=eq_true c5
    have c5b1 : decide ((a1.size : Int) ≤ (a0.size : Int)) = true:=decide_eq_true c5
    clear c5
    obtain rfl:=Option.some.inj H
    go_enter Tryd.func132,Tryd.ntmps132
    go_wp2
    go_ret
    exact ⟨by first | rfl | (simp; done) | (simp [*]; done),by repeat (first | exact Drawn0.refl _ | apply Drawn0.step)⟩
   ·rw [if_neg c5] at H
    exact absurd H (by simp)
  ·rw [if_neg c4] at H
   exact absurd H (by simp)
 ·rw [if_neg c3] at H
  have c3b0 : decide ((a1.size : Int) ≤ (a0.size : Int)) = false:=decide_eq_false c3
  have c3b1 : decide (a1.size ≤ a0.size) = false:=decide_eq_false (fun h => c3 (Int.ofNat_le.mpr h))
  clear c3
  obtain rfl:=Option.some.inj H
  go_enter Tryd.func132,Tryd.ntmps132
  go_wp2
  go_ret
  exact ⟨by first | rfl | (simp; done) | (simp [*]; done),by repeat (first | exact Drawn0.refl _ | apply Drawn0.step)⟩

/-! ### stringslite_CutPrefix: function 121 -/
def stringslite_CutPrefix.f (a0 : ByteArray) (a1 : ByteArray) : Option (ByteArray × Bool):=(stringslite_HasPrefix.f a0 a1).bind fun t107 => (if t107 = true then (if 0 ≤ (a1.size : Int) then (if (a1.size : Int) ≤ (a0.size : Int) then (some (a0.extract ((a1.size : Int) : Int).toNat a0.size,true)) else (none)) else (none)) else (some (a0,false)))
set_option maxHeartbeats 8000000 in
set_option maxRecDepth 100000 in
theorem stringslite_CutPrefix.calls (a0 : ByteArray) (a1 : ByteArray) (r1 : ByteArray) (r2 : Bool) (w : World) (h : stringslite_CutPrefix.f a0 a1 = some (r1,r2)) :
  Calls Tryd.prog 121 #[.string a0,.string a1] w fun e w' => e = .returned (.tuple #[.string r1,.bool r2]) ∧ Drawn0 w w':=by
 have H : ((stringslite_HasPrefix.f a0 a1).bind fun t107 => (if t107 = true then (if 0 ≤ (a1.size : Int) then (if (a1.size : Int) ≤ (a0.size : Int) then (some (a0.extract ((a1.size : Int) : Int).toNat a0.size,true)) else (none)) else (none)) else (some (a0,false)))) = some (r1,r2):=h
 clear h
 replace H:=Option.bind_eq_some_iff.mp H
 obtain ⟨t107,A30,H⟩:=H
 replace H : (if t107 = true then (if 0 ≤ (a1.size : Int) then (if (a1.size : Int) ≤ (a0.size : Int) then (some (a0.extract ((a1.size : Int) : Int).toNat a0.size,true)) else (none)) else (none)) else (some (a0,false))) = some (r1,r2):=H
 have A3:=Aside0.mk A30
 clear A30
 by_cases c4 : t107 = true
 ·subst c4
  have H1 : (if 0 ≤ (a1.size : Int) then (if (a1.size : Int) ≤ (a0.size : Int) then (some (a0.extract ((a1.size : Int) : Int).toNat a0.size,true)) else (none)) else (none)) = some (r1,r2):=by rw [if_pos rfl] at H; exact H
  clear H
  have H:=H1
  clear H1
  by_cases c5 : 0 ≤ (a1.size : Int)
  ·rw [if_pos c5] at H
   have c5b0:=eq_true c5
   have c5b1 : decide (0 ≤ (a1.size : Int)) = true:=decide_eq_true c5
   clear c5
   by_cases c6 : (a1.size : Int) ≤ (a0.size : Int)
   ·rw [if_pos c6] at H
    have c6b0:=eq_true c6
    have c6b1 : decide ((a1.size : Int) ≤ (a0.size : Int)) = true:=decide_eq_true c6
    clear c6
    simp only [Option.some.injEq,Prod.mk.injEq] at H
    obtain ⟨rfl,rfl⟩:=H
    go_enter Tryd.func121,Tryd.ntmps121
    go_wp2_with (first | ((with_reducible refine gate_callee (f:=132) rfl ?_); refine goesL_ (some 8) rfl rfl Tryd.func132 (by kernel_rfl) rfl #[.string a0,.string a1] rfl (by (try simp only [List.map_toArray,List.map_cons,List.map_nil]); first | done | rfl | (simp only [List.length_drop,List.length_take]; rfl)) ?_; (with_reducible refine (stringslite_HasPrefix.calls a0 a1 true _ A3.out).mono ?_); rintro e w' ⟨rfl,⟨nd,rfl⟩⟩; refine ⟨_,rfl,?_⟩))
    go_ret2
    exact ⟨by first | rfl | (simp; done) | (simp [*]; done),by repeat (first | exact Drawn0.refl _ | apply Drawn0.step)⟩
   ·rw [if_neg c6] at H
    exact absurd H (by simp)
  ·rw [if_neg c5] at H
   exact absurd H (by simp)
 ·replace c4:=Bool.eq_false_iff.mpr c4
  subst c4
  have H1 : (some (a0,false)) = some (r1,r2):=by rw [if_neg (show ¬ (false = true) by decide)] at H; exact H
  clear H
  have H:=H1
  clear H1
  simp only [Option.some.injEq,Prod.mk.injEq] at H
  obtain ⟨rfl,rfl⟩:=H
  go_enter Tryd.func121,Tryd.ntmps121
  go_wp2_with (first | ((with_reducible refine gate_callee (f:=132) rfl ?_); refine goesL_ (some 8) rfl rfl Tryd.func132 (by kernel_rfl) rfl #[.string a0,.string a1] rfl (by (try simp only [List.map_toArray,List.map_cons,List.map_nil]); first | done | rfl | (simp only [List.length_drop,List.length_take]; rfl)) ?_; (with_reducible refine (stringslite_HasPrefix.calls a0 a1 false _ A3.out).mono ?_); rintro e w' ⟨rfl,⟨nd,rfl⟩⟩; refine ⟨_,rfl,?_⟩))
  go_ret2
  exact ⟨by first | rfl | (simp; done) | (simp [*]; done),by repeat (first | exact Drawn0.refl _ | apply Drawn0.step)⟩

/-! ### strings_CutPrefix: function 103 -/
def strings_CutPrefix.f (a0 : ByteArray) (a1 : ByteArray) : Option (ByteArray × Bool):=(stringslite_CutPrefix.f a0 a1).bind fun bt108 => (some (bt108.1,bt108.2))
set_option maxHeartbeats 8000000 in
set_option maxRecDepth 100000 in
theorem strings_CutPrefix.calls (a0 : ByteArray) (a1 : ByteArray) (r1 : ByteArray) (r2 : Bool) (w : World) (h : strings_CutPrefix.f a0 a1 = some (r1,r2)) :
  Calls Tryd.prog 103 #[.string a0,.string a1] w fun e w' => e = .returned (.tuple #[.string r1,.bool r2]) ∧ Drawn0 w w':=by
 have H : ((stringslite_CutPrefix.f a0 a1).bind fun bt108 => (some (bt108.1,bt108.2))) = some (r1,r2):=h
 clear h
 replace H:=Option.bind_eq_some_iff.mp H
 obtain ⟨⟨t108,t109⟩,A30,H⟩:=H
 replace H : (some (t108,t109)) = some (r1,r2):=H
 have A3:=Aside0.mk A30
 clear A30
 simp only [Option.some.injEq,Prod.mk.injEq] at H
 obtain ⟨rfl,rfl⟩:=H
 go_enter Tryd.func103,Tryd.ntmps103
 go_wp2_with (first | ((with_reducible refine gate_callee (f:=121) rfl ?_); refine goesL_ (some 8) rfl rfl Tryd.func121 (by kernel_rfl) rfl #[.string a0,.string a1] rfl (by (try simp only [List.map_toArray,List.map_cons,List.map_nil]); first | done | rfl | (simp only [List.length_drop,List.length_take]; rfl)) ?_; (with_reducible refine (stringslite_CutPrefix.calls a0 a1 t108 t109 _ A3.out).mono ?_); rintro e w' ⟨rfl,⟨nd,rfl⟩⟩; refine ⟨_,rfl,?_⟩))
 go_ret2
 exact ⟨by first | rfl | (simp; done) | (simp [*]; done),by repeat (first | exact Drawn0.refl _ | apply Drawn0.step)⟩

/-! ### path_Within: function 79 -/
def path_Within.f (a0 : ByteArray) (a1 : ByteArray) : Option (Bool):=(strings_CutPrefix.f a0 a1).bind fun bt110 => (if bt110.2 = true then (if bt110.1.toList = ([] : List UInt8) then (some true) else (if 0 < (bt110.1.size : Int) then (some ((bt bt110.1 0) == 47)) else (none))) else (some false))
set_option maxHeartbeats 8000000 in
set_option maxRecDepth 100000 in
theorem path_Within.calls (a0 : ByteArray) (a1 : ByteArray) (r : Bool) (w : World) (h : path_Within.f a0 a1 = some r) :
  Calls Tryd.prog 79 #[.string a0,.string a1] w fun e w' => e = .returned (.bool r) ∧ Drawn0 w w':=by
 have H : ((strings_CutPrefix.f a0 a1).bind fun bt110 => (if bt110.2 = true then (if bt110.1.toList = ([] : List UInt8) then (some true) else (if 0 < (bt110.1.size : Int) then (some ((bt bt110.1 0) == 47)) else (none))) else (some false))) = some r:=h
 clear h
 replace H:=Option.bind_eq_some_iff.mp H
 obtain ⟨⟨t110,t111⟩,A30,H⟩:=H
 replace H : (if t111 = true then (if t110.toList = ([] : List UInt8) then (some true) else (if 0 < (t110.size : Int) then (some ((bt t110 0) == 47)) else (none))) else (some false)) = some r:=H
 have A3:=Aside0.mk A30
 clear A30
 by_cases c4 : t111 = true
 ·subst c4
  have H1 : (if t110.toList = ([] : List UInt8) then (some true) else (if 0 < (t110.size : Int) then (some ((bt t110 0) == 47)) else (none))) = some r:=by rw [if_pos rfl] at H; exact H
  clear H
  have H:=H1
  clear H1
  by_cases c5 : t110.toList = ([] : List UInt8)
  ·rw [if_pos c5] at H
   have c5b0 : (t110.toList == ([] : List UInt8)) = true:=beq_iff_eq.mpr c5
   have c5b1 : (t110.toList != ([] : List UInt8)) = false:=bne_eq_false_iff_eq.mpr c5
   clear c5
   obtain rfl:=Option.some.inj H
   go_enter Tryd.func79,Tryd.ntmps79
   go_wp2_with (first | ((with_reducible refine gate_callee (f:=103) rfl ?_); refine goesL_ (some 10) rfl rfl Tryd.func103 (by kernel_rfl) rfl #[.string a0,.string a1] rfl (by (try simp only [List.map_toArray,List.map_cons,List.map_nil]); first | done | rfl | (simp only [List.length_drop,List.length_take]; rfl)) ?_; (with_reducible refine (strings_CutPrefix.calls a0 a1 t110 true _ A3.out).mono ?_); rintro e w' ⟨rfl,⟨nd,rfl⟩⟩; refine ⟨_,rfl,?_⟩))
   go_ret
   exact ⟨by first | rfl | (simp; done) | (simp [*]; done),by repeat (first | exact Drawn0.refl _ | apply Drawn0.step)⟩
  ·rw [if_neg c5] at H
   have c5b0 : (t110.toList == ([] : List UInt8)) = false:=beq_eq_false_iff_ne.mpr c5
   have c5b1 : (t110.toList != ([] : List UInt8)) = true:=bne_iff_ne.mpr c5
   by_cases c6 : 0 < (t110.size : Int)
   ·rw [if_pos c6] at H
    have c6b0 : decide (0 < (t110.size : Int)) = true:=decide_eq_true c6
    have c6b1 : decide (0 < t110.size) = true:=decide_eq_true (by omega)
    clear c6
    obtain rfl:=Option.some.inj H
    go_enter Tryd.func79,Tryd.ntmps79
    go_wp2_with (first | ((with_reducible refine gate_callee (f:=103) rfl ?_); refine goesL_ (some 10) rfl rfl Tryd.func103 (by kernel_rfl) rfl #[.string a0,.string a1] rfl (by (try simp only [List.map_toArray,List.map_cons,List.map_nil]); first | done | rfl | (simp only [List.length_drop,List.length_take]; rfl)) ?_; (with_reducible refine (strings_CutPrefix.calls a0 a1 t110 true _ A3.out).mono ?_); rintro e w' ⟨rfl,⟨nd,rfl⟩⟩; refine ⟨_,rfl,?_⟩; have p7 : 0 ≤ (0 : Int):=(by omega); have q7 : 0 < t110.size:=(by have : (0 : Int) < (t110.size : Int):=of_decide_eq_true (by first | (with_reducible assumption) | assumption); omega); have hx7 : ∀ h : 0 < t110.size,((t110[0]'h).toNat : Int) = bt t110 0:=bt_at t110 0; clear p7; have qi7 : (0 < (t110.size : Int)) = True:=eq_true (of_decide_eq_true (by first | (with_reducible assumption) | assumption)); replace q7:=eq_true q7))
    go_ret
    exact ⟨by first | rfl | (simp; done) | (simp [*]; done),by repeat (first | exact Drawn0.refl _ | apply Drawn0.step)⟩
   ·rw [if_neg c6] at H
    exact absurd H (by simp)
 ·replace c4:=Bool.eq_false_iff.mpr c4
  subst c4
  have H1 : (some false) = some r:=by rw [if_neg (show ¬ (false = true) by decide)] at H; exact H
  clear H
  have H:=H1
  clear H1
  obtain rfl:=Option.some.inj H
  go_enter Tryd.func79,Tryd.ntmps79
  go_wp2_with (first | ((with_reducible refine gate_callee (f:=103) rfl ?_); refine goesL_ (some 10) rfl rfl Tryd.func103 (by kernel_rfl) rfl #[.string a0,.string a1] rfl (by (try simp only [List.map_toArray,List.map_cons,List.map_nil]); first | done | rfl | (simp only [List.length_drop,List.length_take]; rfl)) ?_; (with_reducible refine (strings_CutPrefix.calls a0 a1 t110 false _ A3.out).mono ?_); rintro e w' ⟨rfl,⟨nd,rfl⟩⟩; refine ⟨_,rfl,?_⟩))
  go_ret
  exact ⟨by first | rfl | (simp; done) | (simp [*]; done),by repeat (first | exact Drawn0.refl _ | apply Drawn0.step)⟩

/-! ### path_Apart: function 48 -/
def path_Apart.f (a0 : ByteArray) (a1 : ByteArray) : Option (Bool):=(path_Within.f a0 a1).bind fun t112 => (if t112 = true then (some false) else ((path_Within.f a1 a0).bind fun t113 => (some (!t113))))
set_option maxHeartbeats 8000000 in
set_option maxRecDepth 100000 in
theorem path_Apart.calls (a0 : ByteArray) (a1 : ByteArray) (r : Bool) (w : World) (h : path_Apart.f a0 a1 = some r) :
  Calls Tryd.prog 48 #[.string a0,.string a1] w fun e w' => e = .returned (.bool r) ∧ Drawn0 w w':=by
 have H : ((path_Within.f a0 a1).bind fun t112 => (if t112 = true then (some false) else ((path_Within.f a1 a0).bind fun t113 => (some (!t113))))) = some r:=h
 clear h
 replace H:=Option.bind_eq_some_iff.mp H
 obtain ⟨t112,A30,H⟩:=H
 replace H : (if t112 = true then (some false) else ((path_Within.f a1 a0).bind fun t113 => (some (!t113)))) = some r:=H
 have A3:=Aside0.mk A30
 clear A30
 by_cases c4 : t112 = true
 ·subst c4
  have H1 : (some false) = some r:=by rw [if_pos rfl] at H; exact H
  clear H
  have H:=H1
  clear H1
  obtain rfl:=Option.some.inj H
  go_enter Tryd.func48,Tryd.ntmps48
  go_wp2_with (first | ((with_reducible refine gate_callee (f:=79) rfl ?_); refine goesL_ (some 7) rfl rfl Tryd.func79 (by kernel_rfl) rfl #[.string a0,.string a1] rfl (by (try simp only [List.map_toArray,List.map_cons,List.map_nil]); first | done | rfl | (simp only [List.length_drop,List.length_take]; rfl)) ?_; (with_reducible refine (path_Within.calls a0 a1 true _ A3.out).mono ?_); rintro e w' ⟨rfl,⟨nd,rfl⟩⟩; refine ⟨_,rfl,?_⟩))
  go_ret
  exact ⟨by first | rfl | (simp; done) | (simp [*]; done),by repeat (first | exact Drawn0.refl _ | apply Drawn0.step)⟩
 ·replace c4:=Bool.eq_false_iff.mpr c4
  subst c4
  have H1 : ((path_Within.f a1 a0).bind fun t113 => (some (!t113))) = some r:=by rw [if_neg (show ¬ (false = true) by decide)] at H; exact H
  clear H
  have H:=H1
  clear H1
  replace H:=Option.bind_eq_some_iff.mp H
  obtain ⟨t113,A50,H⟩:=H
  replace H : (some (!t113)) = some r:=H
  have A5:=Aside0.mk A50
  clear A50
  obtain rfl:=Option.some.inj H
  go_enter Tryd.func48,Tryd.ntmps48
  go_wp2_with (first | ((with_reducible refine gate_callee (f:=79) rfl ?_); refine goesL_ (some 7) rfl rfl Tryd.func79 (by kernel_rfl) rfl #[.string a0,.string a1] rfl (by (try simp only [List.map_toArray,List.map_cons,List.map_nil]); first | done | rfl | (simp only [List.length_drop,List.length_take]; rfl)) ?_; (with_reducible refine (path_Within.calls a0 a1 false _ A3.out).mono ?_); rintro e w' ⟨rfl,⟨nd,rfl⟩⟩; refine ⟨_,rfl,?_⟩) | (go_at_call 79; (with_reducible refine (path_Within.calls a1 a0 t113 _ A5.out).mono ?_); rintro e w' ⟨rfl,⟨nd,rfl⟩⟩))
  go_ret
  exact ⟨by first | rfl | (simp; done) | (simp [*]; done),by repeat (first | exact Drawn0.refl _ | apply Drawn0.step)⟩

-- NOT PRINTED: function 104 (slices_IndexFunc_string_string)

-- NOT PRINTED: function 80 (slices_ContainsFunc_string_string)

end Go.Proofs.YthhohbidjhcjeaaDoor.Q
namespace Go.Proofs
open Go.Shelf
def Tryd.lays119_ren : Go.Shelf.Ren:=⟨fun | 119 => 129 | n => n,fun | 21 => 21 | 4 => 4 | n => n,fun | n => n⟩
theorem Tryd.lays119 : Go.Proofs.Lays.n119 Tryd.prog Tryd.lays119_ren:={
 mixed:=by kernel_rfl
 f119:=Tryd.func129.trans (congrArg some (by kernel_rfl))
 t4:=Tryd.underlying4
 a4:=Tryd.isAgg4
 z4:=Tryd.sizeOf4
 v4:=Tryd.zeroValue4
 t21:=Tryd.underlying21
 a21:=Tryd.isAgg21
 z21:=Tryd.sizeOf21
 v21:=Tryd.zeroValue21 }
theorem Tryd.utf8_ValidRune (r : Int) (w : World) :
  Calls Tryd.prog 129 #[.int .i32 r] w fun e w' => e = .returned (.bool (Lib.validRune r)) ∧ w' = w:=Any.utf8_ValidRune Tryd.lays119 r w
def Tryd.lays137_ren : Go.Shelf.Ren:=⟨fun | 137 => 128 | 217 => 133 | 266 => 137 | n => n,fun | 9 => 9 | 5 => 5 | 3 => 3 | n => n,fun | n => n⟩
theorem Tryd.lays137 : Go.Proofs.Lays.n137 Tryd.prog Tryd.lays137_ren:={
 mixed:=by kernel_rfl
 f137:=Tryd.func128.trans (congrArg some (by kernel_rfl))
 f217:=Tryd.func133.trans (congrArg some (by kernel_rfl))
 f266:=Tryd.func137.trans (congrArg some (by kernel_rfl))
 t3:=Tryd.underlying3
 a3:=Tryd.isAgg3
 z3:=Tryd.sizeOf3
 v3:=Tryd.zeroValue3
 t5:=Tryd.underlying5
 a5:=Tryd.isAgg5
 z5:=Tryd.sizeOf5
 v5:=Tryd.zeroValue5
 t9:=Tryd.underlying9
 a9:=Tryd.isAgg9
 z9:=Tryd.sizeOf9
 v9:=Tryd.zeroValue9 }
open Go.RowKit in
theorem Tryd.strings_IndexByte (s : ByteArray) (c : Int) (w : World) :
  Calls Tryd.prog 128 #[.string s,.int .u8 c] w fun e w' => e = .returned (.int .i64 (Lib.indexByte s.data.toList c.toNat.toUInt8)) ∧ w' = w:=Any.strings_IndexByte Tryd.lays137 s c w
def Tryd.lays210_ren : Go.Shelf.Ren:=⟨fun | 210 => 121 | 206 => 132 | n => n,fun | 9 => 9 | 4 => 4 | 3 => 3 | n => n,fun | n => n⟩
theorem Tryd.lays210 : Go.Proofs.Lays.n210 Tryd.prog Tryd.lays210_ren:={
 mixed:=by kernel_rfl
 f206:=Tryd.func132.trans (congrArg some (by kernel_rfl))
 f210:=Tryd.func121.trans (congrArg some (by kernel_rfl))
 t3:=Tryd.underlying3
 a3:=Tryd.isAgg3
 z3:=Tryd.sizeOf3
 v3:=Tryd.zeroValue3
 t4:=Tryd.underlying4
 a4:=Tryd.isAgg4
 z4:=Tryd.sizeOf4
 v4:=Tryd.zeroValue4
 t9:=Tryd.underlying9
 a9:=Tryd.isAgg9
 z9:=Tryd.sizeOf9
 v9:=Tryd.zeroValue9 }
open Go.RowKit in
theorem Tryd.stringslite_CutPrefix (s p : ByteArray) (w : World) :
  Calls Tryd.prog 121 #[.string s,.string p] w fun e w' => e = .returned (.tuple #[.string ⟨(Lib.trimPrefix s.data.toList p.data.toList).toArray⟩,.bool (Lib.hasPrefix s.data.toList p.data.toList)]) ∧ w' = w:=Any.stringslite_CutPrefix Tryd.lays210 s p w
def Tryd.lays103_ren : Go.Shelf.Ren:=⟨fun | 103 => 103 | 210 => 121 | 206 => 132 | n => n,fun | 9 => 9 | 4 => 4 | 24 => 75 | 3 => 3 | n => n,fun | n => n⟩
theorem Tryd.lays103 : Go.Proofs.Lays.n103 Tryd.prog Tryd.lays103_ren:={
 mixed:=by kernel_rfl
 f103:=Tryd.func103.trans (congrArg some (by kernel_rfl))
 f206:=Tryd.func132.trans (congrArg some (by kernel_rfl))
 f210:=Tryd.func121.trans (congrArg some (by kernel_rfl))
 t3:=Tryd.underlying3
 a3:=Tryd.isAgg3
 z3:=Tryd.sizeOf3
 v3:=Tryd.zeroValue3
 t4:=Tryd.underlying4
 a4:=Tryd.isAgg4
 z4:=Tryd.sizeOf4
 v4:=Tryd.zeroValue4
 t9:=Tryd.underlying9
 a9:=Tryd.isAgg9
 z9:=Tryd.sizeOf9
 v9:=Tryd.zeroValue9
 t24:=Tryd.underlying75
 a24:=Tryd.isAgg75
 z24:=Tryd.sizeOf75
 v24:=Tryd.zeroValue75 }
open Go.RowKit in
theorem Tryd.strings_CutPrefix (s p : ByteArray) (w : World) :
  Calls Tryd.prog 103 #[.string s,.string p] w fun e w' => e = .returned (.tuple #[.string ⟨(Lib.trimPrefix s.data.toList p.data.toList).toArray⟩,.bool (Lib.hasPrefix s.data.toList p.data.toList)]) ∧ w' = w:=Any.strings_CutPrefix Tryd.lays103 s p w
def Tryd.lays143_ren : Go.Shelf.Ren:=⟨fun | 143 => 105 | 219 => 122 | 217 => 133 | 225 => 131 | 224 => 130 | 267 => 134 | 266 => 137 | 314 => 138 | n => n,fun | 9 => 9 | 3 => 3 | 4 => 4 | 5 => 5 | 46 => 139 | 146 => 148 | 51 => 147 | n => n,fun | 1 => 0 | n => n⟩
theorem Tryd.lays143 : Go.Proofs.Lays.n143 Tryd.prog Tryd.lays143_ren:={
 mixed:=by kernel_rfl
 f143:=Tryd.func105.trans (congrArg some (by kernel_rfl))
 f217:=Tryd.func133.trans (congrArg some (by kernel_rfl))
 f219:=Tryd.func122.trans (congrArg some (by kernel_rfl))
 f224:=Tryd.func130.trans (congrArg some (by kernel_rfl))
 f225:=Tryd.func131.trans (congrArg some (by kernel_rfl))
 f266:=Tryd.func137.trans (congrArg some (by kernel_rfl))
 f267:=Tryd.func134.trans (congrArg some (by kernel_rfl))
 f314:=Tryd.func138.trans (congrArg some (by kernel_rfl))
 t3:=Tryd.underlying3
 a3:=Tryd.isAgg3
 z3:=Tryd.sizeOf3
 v3:=Tryd.zeroValue3
 t4:=Tryd.underlying4
 a4:=Tryd.isAgg4
 z4:=Tryd.sizeOf4
 v4:=Tryd.zeroValue4
 t5:=Tryd.underlying5
 a5:=Tryd.isAgg5
 z5:=Tryd.sizeOf5
 v5:=Tryd.zeroValue5
 t9:=Tryd.underlying9
 a9:=Tryd.isAgg9
 z9:=Tryd.sizeOf9
 v9:=Tryd.zeroValue9
 t46:=Tryd.underlying139
 a46:=Tryd.isAgg139
 z46:=Tryd.sizeOf139
 v46:=Tryd.zeroValue139
 t51:=Tryd.underlying147
 a51:=Tryd.isAgg147
 z51:=Tryd.sizeOf147
 v51:=Tryd.zeroValue147
 t146:=Tryd.underlying148
 a146:=Tryd.isAgg148
 z146:=Tryd.sizeOf148
 v146:=Tryd.zeroValue148
 g1:=by kernel_rfl }
open Go.RowKit Go.Lib in
theorem Tryd.strings_Index_one (s : ByteArray) (c : UInt8) (w : World) :
  Calls Tryd.prog 105 #[.string s,.string ⟨#[c]⟩] w fun e w' => e = .returned (.int .i64 (Lib.indexByte s.data.toList c)) ∧ w' = w:=Any.strings_Index_one Tryd.lays143 s c w
def Tryd.lays144_ren : Go.Shelf.Ren:=⟨fun | 144 => 82 | 143 => 105 | 219 => 122 | 217 => 133 | 225 => 131 | 224 => 130 | 267 => 134 | 266 => 137 | 314 => 138 | n => n,fun | 9 => 9 | 4 => 4 | 3 => 3 | 5 => 5 | 46 => 139 | 146 => 148 | 51 => 147 | n => n,fun | 1 => 0 | n => n⟩
theorem Tryd.lays144 : Go.Proofs.Lays.n144 Tryd.prog Tryd.lays144_ren:={
 mixed:=by kernel_rfl
 f143:=Tryd.func105.trans (congrArg some (by kernel_rfl))
 f144:=Tryd.func82.trans (congrArg some (by kernel_rfl))
 f217:=Tryd.func133.trans (congrArg some (by kernel_rfl))
 f219:=Tryd.func122.trans (congrArg some (by kernel_rfl))
 f224:=Tryd.func130.trans (congrArg some (by kernel_rfl))
 f225:=Tryd.func131.trans (congrArg some (by kernel_rfl))
 f266:=Tryd.func137.trans (congrArg some (by kernel_rfl))
 f267:=Tryd.func134.trans (congrArg some (by kernel_rfl))
 f314:=Tryd.func138.trans (congrArg some (by kernel_rfl))
 t3:=Tryd.underlying3
 a3:=Tryd.isAgg3
 z3:=Tryd.sizeOf3
 v3:=Tryd.zeroValue3
 t4:=Tryd.underlying4
 a4:=Tryd.isAgg4
 z4:=Tryd.sizeOf4
 v4:=Tryd.zeroValue4
 t5:=Tryd.underlying5
 a5:=Tryd.isAgg5
 z5:=Tryd.sizeOf5
 v5:=Tryd.zeroValue5
 t9:=Tryd.underlying9
 a9:=Tryd.isAgg9
 z9:=Tryd.sizeOf9
 v9:=Tryd.zeroValue9
 t46:=Tryd.underlying139
 a46:=Tryd.isAgg139
 z46:=Tryd.sizeOf139
 v46:=Tryd.zeroValue139
 t51:=Tryd.underlying147
 a51:=Tryd.isAgg147
 z51:=Tryd.sizeOf147
 v51:=Tryd.zeroValue147
 t146:=Tryd.underlying148
 a146:=Tryd.isAgg148
 z146:=Tryd.sizeOf148
 v146:=Tryd.zeroValue148
 g1:=by kernel_rfl }
open Go.RowKit Go.Lib in
theorem Tryd.strings_Contains_one (s : ByteArray) (c : UInt8) (w : World) :
  Calls Tryd.prog 82 #[.string s,.string ⟨#[c]⟩] w fun e w' => e = .returned (.bool (decide (0 ≤ Lib.indexByte s.data.toList c))) ∧ w' = w:=Any.strings_Contains_one Tryd.lays144 s c w
def Tryd.lays315_ren : Go.Shelf.Ren:=⟨fun | 315 => 127 | n => n,fun | 9 => 9 | 40 => 115 | 4 => 4 | 3 => 3 | 0 => 0 | 21 => 21 | n => n,fun | n => n⟩
theorem Tryd.lays315 : Go.Proofs.Lays.n315 Tryd.prog Tryd.lays315_ren:={
 mixed:=by kernel_rfl
 f315:=Tryd.func127.trans (congrArg some (by kernel_rfl))
 t0:=Tryd.underlying0
 a0:=Tryd.isAgg0
 z0:=Tryd.sizeOf0
 v0:=Tryd.zeroValue0
 t3:=Tryd.underlying3
 a3:=Tryd.isAgg3
 z3:=Tryd.sizeOf3
 v3:=Tryd.zeroValue3
 t4:=Tryd.underlying4
 a4:=Tryd.isAgg4
 z4:=Tryd.sizeOf4
 v4:=Tryd.zeroValue4
 t9:=Tryd.underlying9
 a9:=Tryd.isAgg9
 z9:=Tryd.sizeOf9
 v9:=Tryd.zeroValue9
 t21:=Tryd.underlying21
 a21:=Tryd.isAgg21
 z21:=Tryd.sizeOf21
 v21:=Tryd.zeroValue21
 t40:=Tryd.underlying115
 a40:=Tryd.isAgg115
 z40:=Tryd.sizeOf115
 v40:=Tryd.zeroValue115 }
open Go.RowKit Go.Lib in
theorem Tryd.strings_indexFunc (g : Nat) (lb : Array Value) (eg : ∀ args w,(callFunc g args).run Tryd.prog w = .ok (.enter g args) w) (p : Nat → Bool) (truth : Bool) (s : ByteArray) (w : World) (hp : PredAt Tryd.prog g lb encR p w) :
  Calls Tryd.prog 127 #[.string s,.func (.func g) #[] lb,.bool truth] w fun e w' => e = .returned (.int .i64 (Lib.idxFunc p truth s)) ∧ Below w.heap.size w w':=Any.strings_indexFunc Tryd.lays315 g lb eg p truth s w hp
def Tryd.laysGw15_ren : Go.Shelf.Ren:=⟨fun | 15 => 119 | 20 => 127 | n => n,fun | 9 => 9 | 23 => 115 | 3 => 3 | 4 => 4 | 0 => 0 | 21 => 21 | n => n,fun | n => n⟩
theorem Tryd.laysGw15 : Go.Proofs.LaysGw.n15 Tryd.prog Tryd.laysGw15_ren:={
 mixed:=by kernel_rfl
 f15:=Tryd.func119.trans (congrArg some (by kernel_rfl))
 f20:=Tryd.func127.trans (congrArg some (by kernel_rfl))
 t0:=Tryd.underlying0
 a0:=Tryd.isAgg0
 z0:=Tryd.sizeOf0
 v0:=Tryd.zeroValue0
 i0:=by kernel_rfl
 t3:=Tryd.underlying3
 a3:=Tryd.isAgg3
 z3:=Tryd.sizeOf3
 v3:=Tryd.zeroValue3
 i3:=by kernel_rfl
 t4:=Tryd.underlying4
 a4:=Tryd.isAgg4
 z4:=Tryd.sizeOf4
 v4:=Tryd.zeroValue4
 i4:=by kernel_rfl
 t9:=Tryd.underlying9
 a9:=Tryd.isAgg9
 z9:=Tryd.sizeOf9
 v9:=Tryd.zeroValue9
 i9:=by kernel_rfl
 t21:=Tryd.underlying21
 a21:=Tryd.isAgg21
 z21:=Tryd.sizeOf21
 v21:=Tryd.zeroValue21
 i21:=by kernel_rfl
 t23:=Tryd.underlying115
 a23:=Tryd.isAgg115
 z23:=Tryd.sizeOf115
 v23:=Tryd.zeroValue115
 i23:=by kernel_rfl }
open Go.RowKit Go.Lib in
theorem Tryd.strings_IndexFunc (g : Nat) (lb : Array Value) (eg : ∀ args w,(callFunc g args).run Tryd.prog w = .ok (.enter g args) w) (p : Nat → Bool) (s : ByteArray) (w : World) (hp : PredAt Tryd.prog g lb encR p w) :
  Calls Tryd.prog 119 #[.string s,.func (.func g) #[] lb] w fun e w' => e = .returned (.int .i64 (Lib.idxFunc p true s)) ∧ Below w.heap.size w w':=Any.strings_IndexFunc Tryd.laysGw15 g lb eg p s w hp
def Tryd.laysGw17_ren : Go.Shelf.Ren:=⟨fun | 17 => 100 | 15 => 119 | 20 => 127 | n => n,fun | 9 => 9 | 23 => 115 | 4 => 4 | 3 => 3 | 0 => 0 | 21 => 21 | n => n,fun | n => n⟩
theorem Tryd.laysGw17 : Go.Proofs.LaysGw.n17 Tryd.prog Tryd.laysGw17_ren:={
 mixed:=by kernel_rfl
 f15:=Tryd.func119.trans (congrArg some (by kernel_rfl))
 f17:=Tryd.func100.trans (congrArg some (by kernel_rfl))
 f20:=Tryd.func127.trans (congrArg some (by kernel_rfl))
 t0:=Tryd.underlying0
 a0:=Tryd.isAgg0
 z0:=Tryd.sizeOf0
 v0:=Tryd.zeroValue0
 i0:=by kernel_rfl
 t3:=Tryd.underlying3
 a3:=Tryd.isAgg3
 z3:=Tryd.sizeOf3
 v3:=Tryd.zeroValue3
 i3:=by kernel_rfl
 t4:=Tryd.underlying4
 a4:=Tryd.isAgg4
 z4:=Tryd.sizeOf4
 v4:=Tryd.zeroValue4
 i4:=by kernel_rfl
 t9:=Tryd.underlying9
 a9:=Tryd.isAgg9
 z9:=Tryd.sizeOf9
 v9:=Tryd.zeroValue9
 i9:=by kernel_rfl
 t21:=Tryd.underlying21
 a21:=Tryd.isAgg21
 z21:=Tryd.sizeOf21
 v21:=Tryd.zeroValue21
 i21:=by kernel_rfl
 t23:=Tryd.underlying115
 a23:=Tryd.isAgg115
 z23:=Tryd.sizeOf115
 v23:=Tryd.zeroValue115
 i23:=by kernel_rfl }
open Go.RowKit Go.Lib in
theorem Tryd.strings_ContainsFunc (g : Nat) (lb : Array Value) (eg : ∀ args w,(callFunc g args).run Tryd.prog w = .ok (.enter g args) w) (p : Nat → Bool) (s : ByteArray) (w : World) (hp : PredAt Tryd.prog g lb encR p w) :
  Calls Tryd.prog 100 #[.string s,.func (.func g) #[] lb] w fun e w' => e = .returned (.bool (decide (0 ≤ Lib.idxFunc p true s))) ∧ Below w.heap.size w w':=Any.strings_ContainsFunc Tryd.laysGw17 g lb eg p s w hp
def Tryd.lays206_ren : Go.Shelf.Ren:=⟨fun | 206 => 132 | n => n,fun | 9 => 9 | 4 => 4 | 3 => 3 | n => n,fun | n => n⟩
theorem Tryd.lays206 : Go.Proofs.Lays.n206 Tryd.prog Tryd.lays206_ren:={
 mixed:=by kernel_rfl
 f206:=Tryd.func132.trans (congrArg some (by kernel_rfl))
 t3:=Tryd.underlying3
 a3:=Tryd.isAgg3
 z3:=Tryd.sizeOf3
 v3:=Tryd.zeroValue3
 t4:=Tryd.underlying4
 a4:=Tryd.isAgg4
 z4:=Tryd.sizeOf4
 v4:=Tryd.zeroValue4
 t9:=Tryd.underlying9
 a9:=Tryd.isAgg9
 z9:=Tryd.sizeOf9
 v9:=Tryd.zeroValue9 }
open Go.RowKit Go.Lib in
theorem Tryd.stringslite_HasPrefix (s p : ByteArray) (w : World) :
  Calls Tryd.prog 132 #[.string s,.string p] w fun e w' => e = .returned (.bool (Lib.hasPrefix s.data.toList p.data.toList)) ∧ w' = w:=Any.stringslite_HasPrefix Tryd.lays206 s p w
def Tryd.lays151_ren : Go.Shelf.Ren:=⟨fun | 151 => 102 | 152 => 120 | 137 => 128 | 119 => 129 | 224 => 130 | 225 => 131 | 217 => 133 | 266 => 137 | n => n,fun | 9 => 9 | 21 => 21 | 4 => 4 | 3 => 3 | 5 => 5 | 0 => 0 | 46 => 139 | n => n,fun | n => n⟩
theorem Tryd.lays151 : Go.Proofs.Lays.n151 Tryd.prog Tryd.lays151_ren:={
 mixed:=by kernel_rfl
 f119:=Tryd.func129.trans (congrArg some (by kernel_rfl))
 f137:=Tryd.func128.trans (congrArg some (by kernel_rfl))
 f151:=Tryd.func102.trans (congrArg some (by kernel_rfl))
 f152:=Tryd.func120.trans (congrArg some (by kernel_rfl))
 f217:=Tryd.func133.trans (congrArg some (by kernel_rfl))
 f224:=Tryd.func130.trans (congrArg some (by kernel_rfl))
 f225:=Tryd.func131.trans (congrArg some (by kernel_rfl))
 f266:=Tryd.func137.trans (congrArg some (by kernel_rfl))
 t0:=Tryd.underlying0
 a0:=Tryd.isAgg0
 z0:=Tryd.sizeOf0
 v0:=Tryd.zeroValue0
 t3:=Tryd.underlying3
 a3:=Tryd.isAgg3
 z3:=Tryd.sizeOf3
 v3:=Tryd.zeroValue3
 t4:=Tryd.underlying4
 a4:=Tryd.isAgg4
 z4:=Tryd.sizeOf4
 v4:=Tryd.zeroValue4
 t5:=Tryd.underlying5
 a5:=Tryd.isAgg5
 z5:=Tryd.sizeOf5
 v5:=Tryd.zeroValue5
 t9:=Tryd.underlying9
 a9:=Tryd.isAgg9
 z9:=Tryd.sizeOf9
 v9:=Tryd.zeroValue9
 t21:=Tryd.underlying21
 a21:=Tryd.isAgg21
 z21:=Tryd.sizeOf21
 v21:=Tryd.zeroValue21
 t46:=Tryd.underlying139
 a46:=Tryd.isAgg139
 z46:=Tryd.sizeOf139
 v46:=Tryd.zeroValue139 }
open Go.RowKit Go.Lib in
theorem Tryd.strings_ContainsRune_ascii (s : ByteArray) (r : Int) (w : World) (h0 : 0 ≤ r) (h1 : r < 128) :
  Calls Tryd.prog 102 #[.string s,.int .i32 r] w fun e w' => e = .returned (.bool (decide (0 ≤ Lib.indexByte s.data.toList r.toNat.toUInt8))) ∧ w' = w:=Any.strings_ContainsRune_ascii Tryd.lays151 s r w h0 h1
open Go.RowKit Go.Lib in
theorem Tryd.strings_ContainsFunc_grows (g : Nat) (lb : Array Value) (eg : ∀ args w,(callFunc g args).run Tryd.prog w = .ok (.enter g args) w) (p : Nat → Bool) (s : ByteArray) (w : World) (hp : PredGrows Tryd.prog g lb p w) :
  Calls Tryd.prog 100 #[.string s,.func (.func g) #[] lb] w fun e w' => e = .returned (.bool (decide (0 ≤ Lib.idxFunc p true s))) ∧ Below w.heap.size w w':=Any.strings_ContainsFunc_grows Tryd.laysGw17 g lb eg p s w hp
end Go.Proofs
namespace Go.Proofs.YthhohbidjhcjeaaDoor.RB
open Go Go.RowKit
variable {F : Fence} {n : Nat} {P : Program}

/-- What is said stays said behind the iterator's own steps: a new block; an object of its walk; a store into a box of Z. -/
def AbidesZ {β : Type} (Z : Nat → Prop) (B : Nat) (J : β → World → Prop) : Prop :=
 ∀ (s : β) (W W' : World) (row : Option Nat),J s W → W.grownBy W' row → (∀ r,row = some r → (B ≤ r ∧ ∃ o : Obj,W.heap[r]? = some o ∧ o.isWalk = true) ∨ Z r) → J s W'
def OwnZ {β : Type} (Z : Nat → Prop) (B : Nat) (I : β → World → Prop) : Prop :=
 ∀ (s : β) (W W' : World) (row : Option Nat),I s W → W.grownBy W' row → (∀ r,row = some r → (B ≤ r ∧ ∃ o : Obj,W.heap[r]? = some o ∧ o.isCells = false) ∨ Z r) → I s W'
theorem OwnZ.from {β : Type} {Z : Nat → Prop} {B : Nat} {I : β → World → Prop} (h : OwnZ Z B I) : OwnFrom B I:=fun s W W' row hs hg hr => h s W W' row hs hg (fun r e => .inl (hr r e))
/-- The contract of an iterator with boxes Z. -/
def SeqZ {α : Type} (F : Fence) (n : Nat) (P : Program) (g : Nat) (lb : Array Value) (encs : α → Array Value) (Kp : World → World → Prop) (Z : Nat → Prop) (S Sp : List α → Prop) (N : Nat) (w : World) : Prop :=
 ∀ (l : Nat) (J Jx : List α → World → Prop) (W : World),Below w.heap.size w W → AbidesZ Z W.heap.size J → AbidesZ Z W.heap.size Jx →
  (∀ pre x W1,J pre W1 → pre.length < N → YieldAt F (n - 1) P l (encs x) W1 fun e W' =>
   (e = .returned (.bool true) ∧ J (pre ++ [x]) W' ∧ Kp W1 W') ∨ (e = .returned (.bool false) ∧ Jx (pre ++ [x]) W')) →
  J [] W →
  CallsIn F n P g (#[.func (.yield l) #[] #[]] ++ lb) W fun e W' => (∃ v,e = .returned v) ∧ ((∃ xs,S xs ∧ J xs W') ∨ (∃ pre,Sp pre ∧ Jx pre W'))

/-- How a round may be left. -/
def postZ {α : Type} (B : Nat) (Kp : World → World → Prop) (I : List α → World → Prop) (Ix : Code → List α → World → Prop) (xs : List α) (W : World) : Exit → Act → World → Prop
 | .normal,_,W' => KeepsFrom B W W' ∧ Kp W W' ∧ I xs W'
 | .ret,_,W' => KeepsFrom B W W' ∧ Ix .ret xs W'
 | _,_,_ => False

theorem wpIn_rangeFunc_boxes {α : Type} {g : Operand} {ps : Array Tmp} {assign body : Code} {Q : Exit → Act → World → Prop} {a : Act} {w : World}
  (hro : F.round = none) (h1 : 1 ≤ n) {gf : Nat} {lb : Array Value} (hg : a.eval g = .func (.func gf) #[] lb) (hFg : F.fn gf) (eg : ∀ args w,(callFunc gf args).run P w = .ok (.enter gf args) w)
  {encs : α → Array Value} {Kp : World → World → Prop} {Z : Nat → Prop} {S Sp : List α → Prop} {N : Nat} {w0 : World} (hseq : SeqZ F (n - 1) P gf lb encs Kp Z S Sp N w0) (hZ : ∀ r,Z r → r < w.heap.size)
  (hKt : ∀ {A B C : World},Kp A B → Kp B C → Kp A C) (hKb : ∀ (W : World) (l : Nat) (o o' : Obj),w.heap.size ≤ l → W.heap[l]? = some o → o.isCells = false → o.isWalk = false → Kp W (W.putObj l o')) (hb0 : Below w0.heap.size w0 w) (hps : ∀ x,(encs x).size = ps.size)
  (I : List α → World → Prop) (Ix : Code → List α → World → Prop) (hI : OwnZ Z w.heap.size I) (hIx : ∀ c,OwnZ Z w.heap.size (Ix c)) (h0 : I [] w) (a₁ : α → Act)
  (hassign : ∀ (l : Nat) (x : α) (W : World) (K : Act → World → Prop),K (a₁ x) W →
   assign.wpIn (F.inRound l) (n - 1 - 1) P (Exit.then K (fun _ _ _ => False)) { tmps:=(ps.zip (encs x)).foldl (fun t (p,v) => t.setIfInBounds p v) a.tmps,defers:=[] } W)
  (hbody : ∀ (l : Nat) (pre : List α) (x : α) (W : World),I pre W → pre.length < N → body.wpIn (F.inRound l) (n - 1 - 1) P (postZ w.heap.size Kp I Ix (pre ++ [x]) W) (a₁ x) W)
  (hdone : ∀ (D : Nat) (xs : List α) (W : World),w.heap.size ≤ D → S xs → I xs W → W.heap[D]? = some (.deferred (some [])) → Q .normal { a with defers:={ target:=.collected D,args:=#[] } :: a.defers } W)
  (hstop : ∀ (D : Nat) (pre : List α) (W : World),w.heap.size ≤ D → Sp pre → Ix .ret pre W → W.heap[D]? = some (.deferred (some [])) → (Code.ret).wpIn F n P Q { a with defers:={ target:=.collected D,args:=#[] } :: a.defers } W) :
  (Code.rangeFunc g ps assign body).wpIn F n P Q a w:=by
 refine wpIn_rangeFunc fun fn hfn => ?_
 rw [hro]
  -- the two blocks of book-keeping: the deferred calls, the loop's record
 obtain ⟨rec,hrec⟩ : ∃ rec : LoopState → Option Code → Loop,rec = fun st pe => { state:=st,pending:=pe,fn,tmps:=a.tmps,params:=ps,assign,body,defers:=w.heap.size }:=⟨_,rfl⟩
 obtain ⟨V,hV⟩ : ∃ V,(w.alloc (.deferred (some []))).alloc (.loop (rec .ready none)) = V:=⟨_,rfl⟩
 have vL : V.heap[w.heap.size + 1]? = some (.loop (rec .ready none)):=by
  have h:=World.alloc_heap_new (w.alloc (.deferred (some []))) (.loop (rec .ready none))
  rw [World.size_alloc,hV] at h
  exact h
 have vD : V.heap[w.heap.size]? = some (.deferred (some [])):=by
  rw [← hV]
  exact (Below.heap_alloc _ _ _ (by simp)).trans (World.alloc_heap_new w _)
 have vS : V.heap.size = w.heap.size + 2:=by rw [← hV]; simp
 have vI : I [] V:=by rw [← hV]; exact hI.from.alloc _ (hI.from.alloc _ h0)
 have vB : Below w0.heap.size w0 V:=by
  rw [← hV]
  exact hb0.trans ((((Below.refl _ w).alloc (Nat.le_refl _) _).alloc (by simp) _).mono hb0.size)
  -- an object that holds no cells, or the two blocks, are no matter of the iterator's
 have keep : ∀ {X Y : World} {row : Option Nat} {k : Nat} {o : Obj},X.grownBy Y row → (∀ r,row = some r → (V.heap.size ≤ r ∧ ∃ o : Obj,X.heap[r]? = some o ∧ o.isWalk = true) ∨ Z r) → w.heap.size ≤ k → k < w.heap.size + 2 → X.heap[k]? = some o → Y.heap[k]? = some o:=by
  intro X Y row k o hg' hr h1 h2 hk
  refine (hg'.block k (Array.getElem?_eq_some_iff.1 hk).1 (fun e => ?_)).trans hk
  rcases hr k e.symm with ⟨h3,_⟩ | h3
  ·omega
  ·have:=hZ k h3
   omega
 have less : ∀ {X : World} {row : Option Nat},(∀ r,row = some r → (V.heap.size ≤ r ∧ ∃ o : Obj,X.heap[r]? = some o ∧ o.isWalk = true) ∨ Z r) → ∀ r,row = some r → (w.heap.size ≤ r ∧ ∃ o : Obj,X.heap[r]? = some o ∧ o.isCells = false) ∨ Z r:=by
  intro X row hr r e
  rcases hr r e with ⟨h3,o,ho,hw⟩ | h3
  ·exact .inl ⟨by omega,o,ho,Obj.not_cells_of_walk hw⟩
  ·exact .inr h3
 refine ⟨w.heap.size + 1,[{ target:=.collected w.heap.size,args:=#[] }],V,{ target:=.fn (.func gf) lb,args:=#[.func (.yield (w.heap.size + 1)) #[] #[]] },V,gf,
  #[.func (.yield (w.heap.size + 1)) #[] #[]] ++ lb,V,?_,?_,?_,?_,fun _ => h1,?_⟩
 ·rw [← hV,hrec]; exact run_enterLoop_outer _ _ _ _ _
 ·simp only [resolve,hg]; simp [go_sem]
 ·intro f' hf'; simp [Target.leads] at hf'; subst hf'; exact hFg
 ·simp [invoke,go_sem,eg]
 refine (hseq (w.heap.size + 1)
  (fun pre W => I pre W ∧ W.heap[w.heap.size + 1]? = some (.loop (rec .ready none)) ∧ W.heap[w.heap.size]? = some (.deferred (some [])))
  (fun pre W => Ix .ret pre W ∧ W.heap[w.heap.size + 1]? = some (.loop (rec .done (some .ret))) ∧ W.heap[w.heap.size]? = some (.deferred (some [])))
  V vB
  (fun s X Y row hs hg' hr => ⟨hI s X Y row hs.1 hg' (less hr),keep hg' hr (by omega) (by omega) hs.2.1,keep hg' hr (by omega) (by omega) hs.2.2⟩)
  (fun s X Y row hs hg' hr => ⟨hIx .ret s X Y row hs.1 hg' (less hr),keep hg' hr (by omega) (by omega) hs.2.1,keep hg' hr (by omega) (by omega) hs.2.2⟩)
  ?round ⟨vI,vL,vD⟩).mono ?behind
 case round =>
  rintro pre x W ⟨hi,hl,hk⟩ hlen
  have hlt : w.heap.size + 1 < W.heap.size:=(Array.getElem?_eq_some_iff.1 hl).1
  have hy:=run_yield (P:=P) (args:=encs x) hl (by rw [hrec]; exact hps x)
  rw [hrec] at hy
  refine ⟨fn,_,assign,body,hy,roundIn_of_wpIn hfn (hassign _ x W _ ?_)⟩
  refine ⟨_,run_beginRound hl (by rw [hrec]),?_⟩
  obtain ⟨X,hX⟩ : ∃ X,W.putObj (w.heap.size + 1) (.loop { rec .ready none with state:=.busy }) = X:=⟨_,rfl⟩
  have xL : X.heap[w.heap.size + 1]? = some (.loop { rec .ready none with state:=.busy }):=by rw [← hX]; exact World.putObj_heap_same hlt
  have xD : X.heap[w.heap.size]? = some (.deferred (some [])):=by rw [← hX]; exact (World.putObj_heap_other (by omega)).trans hk
  have xK : Kp W X:=by rw [← hX]; exact hKb _ _ _ _ (by omega) hl rfl rfl
  have xI : I pre X:=by rw [← hX]; exact hI.from.putObj _ hi (by omega) hl rfl
  rw [hX]
  refine wpIn_mono (hbody _ pre x X xI hlen) ?_
    -- the round's end: the record is written back
  have fin : ∀ (jump : Option Code) (Y : World),KeepsFrom w.heap.size X Y →
    (Instr.endRound (w.heap.size + 1) jump).run P Y = .ok (.bool jump.isNone) (Y.putObj (w.heap.size + 1) (.loop (rec (if jump.isNone then .ready else .done) jump))) ∧
    Y.heap[w.heap.size + 1]? = some (.loop { rec .ready none with state:=.busy }) ∧
    (Y.putObj (w.heap.size + 1) (.loop (rec (if jump.isNone then .ready else .done) jump))).heap[w.heap.size + 1]? = some (.loop (rec (if jump.isNone then .ready else .done) jump)) ∧
    (Y.putObj (w.heap.size + 1) (.loop (rec (if jump.isNone then .ready else .done) jump))).heap[w.heap.size]? = some (.deferred (some [])):=by
   intro jump Y hk3
   have yL:=hk3.same _ _ (by omega) xL rfl
   have e:=run_endRound (P:=P) jump yL
   rw [hrec] at e ⊢
   exact ⟨e,by rw [hrec] at yL; exact yL,World.putObj_heap_same (Array.getElem?_eq_some_iff.1 yL).1,(World.putObj_heap_other (by omega)).trans (hk3.same _ _ (Nat.le_refl _) xD rfl)⟩
  intro e a3 Y hp
  cases e with
  | normal =>
   obtain ⟨q1,q2,q3⟩:=hp
   obtain ⟨r1,r2,r3,r4⟩:=fin none Y q1
   exact ⟨_,_,r1,.inl ⟨rfl,⟨hI.from.putObj _ q3 (by omega) r2 rfl,r3,r4⟩,hKt xK (hKt q2 (hKb _ _ _ _ (by omega) r2 rfl rfl))⟩⟩
  | ret =>
   obtain ⟨q1,q3⟩:=hp
   obtain ⟨r1,r2,r3,r4⟩:=fin (some .ret) Y q1
   exact ⟨_,_,r1,.inr ⟨rfl,(hIx .ret).from.putObj _ q3 (by omega) r2 rfl,r3,r4⟩⟩
  | exit id => exact hp.elim
  | goto t => exact hp.elim
  | panic ch => exact hp.elim
  | outgrown => exact hp.elim
 case behind =>
  rintro e Y ⟨⟨v,rfl⟩,(⟨xs,hS,hi,hl,hk⟩ | ⟨pre,hSp,hi,hl,hk⟩)⟩
  ·have e:=run_endLoop (P:=P) hl (by rw [hrec]; simp)
   rw [hrec] at e
   exact ⟨none,_,e,hdone _ xs _ (Nat.le_refl _) hS (hI.from.putObj _ hi (by omega) hl rfl) ((World.putObj_heap_other (by omega)).trans hk)⟩
  ·have e:=run_endLoop (P:=P) hl (by rw [hrec]; simp)
   rw [hrec] at e
   exact ⟨some .ret,_,e,hstop _ pre _ (Nat.le_refl _) hSp ((hIx .ret).from.putObj _ hi (by omega) hl rfl) ((World.putObj_heap_other (by omega)).trans hk)⟩
end Go.Proofs.YthhohbidjhcjeaaDoor.RB
namespace Go.Proofs.YthhohbidjhcjeaaDoor.H
open Go.RowKit Go.Lib Go.Shelf

/-- The letters that parts of paths are made of. -/
def letters : ByteArray:=⟨#[97,98,99,100,101,102,103,104,105,106,107,108,109,110,111,112,113,114,115,116,117,118,119,120,121,122,48,49,50,51,52,53,54,55,56,57,46,95,45]⟩
theorem letters_low : ∀ b ∈ letters.data.toList,b.toNat < 128:=by decide +kernel
theorem letters_size : letters.size = 39:=by decide +kernel
theorem letters_decode : ∀ p,p < 39 → (Utf8.decode letters p).1 < 128 ∧ (Utf8.decode letters p).2 = 1:=by decide +kernel
theorem indexByte_none (l : List UInt8) (c : UInt8) (h : ∀ b ∈ l,b.toNat < 128) (hc : 128 ≤ c.toNat) : Lib.indexByte l c = -1:=by
 induction l with
 | nil => rfl
 | cons b l ih =>
  have hb : (b == c) = false:=by
   have h1:=h b (by simp)
   simp only [beq_eq_false_iff_ne,ne_eq]
   rintro rfl
   omega
  rw [Lib.indexByte,hb,ih (fun x hx => h x (by simp [hx]))]
  rfl

set_option maxHeartbeats 2000000 in
set_option maxRecDepth 1000000 in
theorem indexRune_bad (r : Int) (h1 : 128 ≤ r) (hb : Lib.validRune r = false) (w : World) :
  Calls Tryd.prog 120 #[.string letters,.int .i32 r] w fun e w' => e = .returned (.int .i64 (-1)) ∧ Below w.heap.size w w':=by
 have h2 : r ≠ 65533:=by rintro rfl; revert hb; decide
 go_enter Tryd.func120,Tryd.ntmps120
 go_wp2_with (go_at_call 129; refine (Tryd.utf8_ValidRune _ _).mono ?_; rintro e w' ⟨rfl,rfl⟩; rw [hb])
 go_ret
 exact ⟨rfl,Below.refl _ _⟩
set_option maxHeartbeats 2000000 in
set_option maxRecDepth 1000000 in
theorem indexRune_error (w : World) :
  Calls Tryd.prog 120 #[.string letters,.int .i32 65533] w fun e w' => e = .returned (.int .i64 (-1)) ∧ Below w.heap.size w w':=by
 obtain ⟨s,hs⟩ : ∃ s,letters = s:=⟨_,rfl⟩
 have hsz : s.size = 39:=by rw [← hs]; exact letters_size
 have hd:=letters_decode
 rw [hs] at hd
 rw [hs]
 clear hs
 go_enter Tryd.func120,Tryd.ntmps120
 go_wp2
 go_loopg [] s.size (fun gf wx => ∃ pos : Nat,wx.heap[w.heap.size]? = some (.stringIter s pos) ∧ Below w.heap.size w wx ∧ s.size ≤ pos + gf)
 case atStart => exact ⟨0,World.iter_heap w s 0,(Below.refl _ w).alloc (Nat.le_refl _) _,by omega⟩
 case round =>
  obtain ⟨pos,hit,hbw,hfu⟩:=hrel
  by_cases hps : pos < s.size
  ·obtain ⟨g',rfl⟩ : ∃ g',gk = g' + 1:=⟨gk - 1,by omega⟩
   have hnx : ∀ ty,(Instr.next (.pointer (some ⟨w.heap.size,0,none⟩)) true ty).run Tryd.prog wr = _:=fun ty => Lib.run_next_any_at wr w.heap.size s pos ty hit hps
   obtain ⟨hd1,hd2⟩:=hd pos (by omega)
   obtain ⟨R,hR⟩ : ∃ R,(Utf8.decode s pos).1 = R:=⟨_,rfl⟩
   rw [hR] at hnx hd1
   rw [hd2] at hnx
   have hit2:=Lib.iterAt_heap wr w.heap.size s pos (pos + 1) hit
   have hbw2:=Lib.below_iterAt hbw (k:=w.heap.size) (Nat.le_refl _) s (pos + 1)
   obtain ⟨W,hWd⟩ : ∃ W,wr.iterAt w.heap.size s (pos + 1) = W:=⟨_,rfl⟩
   rw [hWd] at hnx hit2 hbw2
   have hne : ((R : Int) == 65533) = false:=by simp; omega
   go_wp2
   go_roundg g'
   case measure => omega
   case rel => exact ⟨pos + 1,hit2,hbw2,by omega⟩
  ·have hnx : ∀ ty,(Instr.next (.pointer (some ⟨w.heap.size,0,none⟩)) true ty).run Tryd.prog wr = _:=fun ty => Lib.run_next_end_at wr w.heap.size s pos ty hit hps
   go_wp2
   go_ret
   exact ⟨rfl,hbw⟩

set_option maxHeartbeats 2000000 in
set_option maxRecDepth 1000000 in
theorem indexRune_valid (r : Int) (h1 : 128 ≤ r) (h2 : r ≠ 65533) (hv : Lib.validRune r = true) (w : World) :
  Calls Tryd.prog 120 #[.string letters,.int .i32 r] w fun e w' => e = .returned (.int .i64 (-1)) ∧ Below w.heap.size w w':=by
 obtain ⟨s,hs⟩ : ∃ s,letters = s:=⟨_,rfl⟩
 have hsz : s.size = 39:=by rw [← hs]; exact letters_size
 have hlow:=letters_low
 rw [hs] at hlow
 rw [hs]
 clear hs
 obtain ⟨e2,e4,elast⟩:=encode_facts r (by rw [validRune_eq]; exact hv) h1
 obtain ⟨E,hE⟩ : ∃ E,Utf8.encode r = E:=⟨_,rfl⟩
 rw [hE] at e2 e4 elast
 obtain ⟨n,hn⟩ : ∃ n,E.size = n + 1:=⟨E.size - 1,by omega⟩
 have hn1 : 1 ≤ n:=by omega
 have hn3 : n ≤ 3:=by omega
 have hlt : n < E.size:=by omega
 have hla : 128 ≤ (E[n]'hlt).toNat:=by
  have h:=elast (by omega)
  have e : E.size - 1 = n:=by omega
  simpa only [e] using h
 clear elast e2 e4
 obtain ⟨c,hc⟩ : ∃ c,E[n]'hlt = c:=⟨_,rfl⟩
 rw [hc] at hla
 have hsn : n < s.size:=by omega
 obtain ⟨b,hb⟩ : ∃ b,s[n]'hsn = b:=⟨_,rfl⟩
 have hbl : b.toNat < 128:=by
  rw [← hb]
  exact hlow _ (Array.getElem_mem_toList (xs:=s.data) hsn)
 have ix1 : ∀ W,(Instr.index 9 (.string s) (.int .i64 (n : Int))).run Tryd.prog W = .ok (.int .u8 b.toNat) W:=fun W => by
  rw [run_index_string W 9 s .i64 _ Tryd.underlying9,dif_pos ⟨by omega,by omega⟩]
  simp only [Int.toNat_natCast,hb]
 have ix2 : ∀ W,(Instr.index 9 (.string E) (.int .i64 (n : Int))).run Tryd.prog W = .ok (.int .u8 c.toNat) W:=fun W => by
  rw [run_index_string W 9 E .i64 _ Tryd.underlying9,dif_pos ⟨by omega,by omega⟩]
  simp only [Int.toNat_natCast,hc]
 have cIB : ∀ (a e : Nat) (W : World),Calls Tryd.prog 128 #[.string (s.extract a e),.int .u8 (c.toNat : Int)] W fun e w' => e = .returned (.int .i64 (-1)) ∧ w' = W:=fun a e W => by
  have h:=Tryd.strings_IndexByte (s.extract a e) (c.toNat : Int) W
  rw [indexByte_none _ _ (fun x hx => hlow x (mem_extract hx)) (by simpa using hla)] at h
  exact h
 have hbc : (((b.toNat : Int)) == (c.toNat : Int)) = false:=by simp only [beq_eq_false_iff_ne,ne_eq]; omega
 have hbc' : (((b.toNat : Int)) != (c.toNat : Int)) = true:=by simp only [bne_iff_ne,ne_eq]; omega
 have hwr : IntKind.i64.wrap ((n : Int) + 1) = (n : Int) + 1:=wrap_small _ (by omega) (by omega)
 have hsl : ∀ W,(Instr.slice 9 (.string s) (some (.int .i64 (IntKind.i64.wrap ((n : Int) + 1)))) none none).run Tryd.prog W = .ok (.string (s.extract (n + 1) s.size)) W:=fun W => by
  rw [hwr,run_slice_string_from_if W 9 s .i64 _ Tryd.underlying9,if_pos ⟨by omega,by omega⟩]
  rfl
 clear hwr
 have hlen : (n : Int) < 39:=by omega
 have hs21 : (Tryd.prog.underlying 21).isSome = true:=by rw [Tryd.underlying21]; rfl
 have hcv : ∀ W,(convert 21 9 (.int .i32 r)).run Tryd.prog W = .ok (.string E) W:=fun W => by rw [run_convert_int_string W 21 9 .i32 r hs21 Tryd.underlying9,hE]
 go_enter Tryd.func120,Tryd.ntmps120
 go_wp2_with (go_at_call 129; refine (Tryd.utf8_ValidRune _ _).mono ?_; rintro e w1 ⟨rfl,hw1⟩; rw [hv,hw1])
 go_step3
 go_wp2
 go_loopg [9] 1 (fun gf v9 wx => v9 = .int .i64 (n : Int) ∧ wx = w)
 case atStart => exact ⟨rfl,rfl⟩
 case round =>
  obtain ⟨rfl,rfl⟩:=hrel
  go_wp2
  go_step3
  go_wp2
  go_region
  all_goals go_wp2
  all_goals go_region_with (go_at_call 128; refine (cIB _ _ _).mono ?_; rintro e w2 ⟨rfl,hw2⟩; rw [hw2])
  all_goals go_wp2
  all_goals simp only [Exit.noGoto_ret,Exit.inBlock,Exit.then]
  all_goals go_ret
  all_goals exact ⟨rfl,by repeat (first | exact Below.refl _ _ | refine Below.drew ?_)⟩

/-- Is a rune one of the letters? -/
def isLetter (r : Nat) : Bool:=decide (r < 128) && decide (0 ≤ Lib.indexByte letters.data.toList r.toUInt8)
theorem containsRune (r : Nat) (hr : r ≤ 1114111) (w : World) :
  Calls Tryd.prog 102 #[.string letters,.int .i32 (r : Int)] w fun e w' => e = .returned (.bool (isLetter r)) ∧ Below w.heap.size w w':=by
 by_cases h : r < 128
 ·refine (Tryd.strings_ContainsRune_ascii letters (r : Int) w (by omega) (by omega)).mono ?_
  rintro e w' ⟨rfl,rfl⟩
  refine ⟨?_,Below.refl _ _⟩
  simp [isLetter,h]
 ·have hI : Calls Tryd.prog 120 #[.string letters,.int .i32 (r : Int)] w fun e w' => e = .returned (.int .i64 (-1)) ∧ Below w.heap.size w w':=by
   by_cases h2 : (r : Int) = 65533
   ·rw [h2]; exact indexRune_error w
   ·cases hv : Lib.validRune (r : Int) with
    | true => exact indexRune_valid _ (by omega) h2 hv w
    | false => exact indexRune_bad _ (by omega) hv w
  have e0 : isLetter r = false:=by simp [isLetter,h]
  rw [e0]
  go_enter Tryd.func102,Tryd.ntmps102
  go_wp2_with (go_at_call 120; refine hI.mono ?_; rintro e w' ⟨rfl,hb⟩)
  go_ret
  exact ⟨rfl,hb⟩
/-- The predicate of path.part: is a rune strange? -/
theorem strange_grows (w : World) : PredGrows Tryd.prog 101 #[] (fun r => !isLetter r) w:=by
 intro W x hx hb
 show Calls Tryd.prog 101 #[.int .i32 (x : Int)] W _
 have hC:=containsRune x hx W
 obtain ⟨s,hs⟩ : ∃ s,letters = s:=⟨_,rfl⟩
 rw [hs] at hC
 unfold letters at hs
 go_enter Tryd.func101,Tryd.ntmps101
 rw [hs]
 go_wp2_with (go_at_call 102; refine hC.mono ?_; rintro e w' ⟨rfl,hb⟩)
 go_ret
 exact ⟨rfl,hb⟩
end Go.Proofs.YthhohbidjhcjeaaDoor.H

namespace Go.Proofs.YthhohbidjhcjeaaDoor.H
open Go.RowKit Go.Lib Go.Shelf

/-- Is a text one part of a path? -/
def strangeB (s : ByteArray) : Bool:=decide (0 ≤ Lib.idxFunc (fun r => !isLetter r) true s)
def partB (s : ByteArray) : Bool:=if s.toList = [] then false else if s.size ≤ 16 then (if s.toList = [46] then false else if s.toList = [46,46] then false else !strangeB s) else false
set_option maxHeartbeats 2000000 in
set_option maxRecDepth 1000000 in
theorem part_calls (s : ByteArray) (w : World) : Calls Tryd.prog 77 #[.string s] w fun e w' => e = .returned (.bool (partB s)) ∧ Below w.heap.size w w':=by
 have hC:=Tryd.strings_ContainsFunc_grows 101 #[] (enters_of Tryd.func101 (by kernel_rfl) rfl) _ s w (strange_grows w)
 have e0 : decide (0 ≤ Lib.idxFunc (fun r => !isLetter r) true s) = strangeB s:=rfl
 rw [e0] at hC
 obtain ⟨b,hb⟩ : ∃ b,strangeB s = b:=⟨_,rfl⟩
 unfold partB
 rw [hb] at hC ⊢
 clear e0 hb
 have hsz : ((s.size : Int) ≤ 16) ↔ s.size ≤ 16:=by omega
 go_enter Tryd.func77,Tryd.ntmps77
 go_wp2_with (go_at_call 100; refine hC.mono ?_; rintro e w' ⟨rfl,hb⟩)
 all_goals go_ret
 all_goals refine ⟨?_,hb⟩
 all_goals simp_all
end Go.Proofs.YthhohbidjhcjeaaDoor.H

namespace Go.Proofs.YthhohbidjhcjeaaDoor.H
open Go.RowKit Go.Shelf Go.Proofs.YthhohbidjhcjeaaDoor.RB
attribute [local go_sem] Oper.semAt_some

/-- The pieces of a text between a sign. -/
def pieces (c : UInt8) : List UInt8 → List (List UInt8)
 | [] => [[]]
 | b :: l => if b = c then [] :: pieces c l else match pieces c l with
  | [] => [[b]]
  | p :: r => (b :: p) :: r
theorem pieces_ne (c : UInt8) : ∀ l,pieces c l ≠ []
 | [] => by simp [pieces]
 | b :: l => by
  unfold pieces
  split
  ·simp
  ·split <;> simp
theorem pieces_pos (c : UInt8) (l : List UInt8) : 1 ≤ (pieces c l).length:=by
 have:=pieces_ne c l
 cases h : pieces c l with
 | nil => exact absurd h this
 | cons p r => simp
theorem pieces_none (c : UInt8) : ∀ (l : List UInt8),Lib.indexByte l c = -1 → pieces c l = [l]
 | [],_ => rfl
 | b :: l,h => by
  have hb : ¬ b = c:=fun e => by
   subst e
   simp [Lib.indexByte] at h
  have hl : Lib.indexByte l c = -1:=by
   have hb' : (b == c) = false:=by simpa using hb
   have hg:=Lib.indexByte_ge l c
   rw [Lib.indexByte,hb'] at h
   by_cases e : Lib.indexByte l c = -1
   ·exact e
   ·have e' : (Lib.indexByte l c == -1) = false:=by simpa using e
    simp only [Bool.false_eq_true,if_false,e'] at h
    omega
  rw [pieces,if_neg hb,pieces_none c l hl]
theorem pieces_some (c : UInt8) : ∀ (l : List UInt8) (i : Nat),Lib.indexByte l c = (i : Int) → i < l.length ∧ pieces c l = l.take i :: pieces c (l.drop (i + 1))
 | [],i,h => by simp [Lib.indexByte] at h
 | b :: l,i,h => by
  by_cases hb : b = c
  ·subst hb
   simp only [Lib.indexByte,beq_self_eq_true,if_true] at h
   obtain rfl : i = 0:=by omega
   exact ⟨by simp,by simp [pieces]⟩
  ·have hb' : (b == c) = false:=by simpa using hb
   have hg:=Lib.indexByte_ge l c
   rw [Lib.indexByte,hb'] at h
   by_cases e : Lib.indexByte l c = -1
   ·simp [e] at h
   ·have e' : (Lib.indexByte l c == -1) = false:=by simpa using e
    simp only [Bool.false_eq_true,if_false,e'] at h
    obtain ⟨j,rfl⟩ : ∃ j,i = j + 1:=⟨i - 1,by omega⟩
    obtain ⟨h1,h2⟩:=pieces_some c l j (by omega)
    exact ⟨by simp; omega,by rw [pieces,if_neg hb,h2]; rfl⟩
theorem pieces_len (c : UInt8) : ∀ l,(pieces c l).length ≤ l.length + 1
 | [] => by simp [pieces]
 | b :: l => by
  have:=pieces_len c l
  unfold pieces
  split
  ·simpa using this
  ·split
   ·simp
   ·rename_i p r h
    rw [h] at this
    simp at this ⊢
    omega

/-- What a round keeps: the iterator's boxes. -/
def KpS (Bp Bs Bv : Nat) (W W' : World) : Prop:=W'.heap[Bp]? = W.heap[Bp]? ∧ W'.heap[Bs]? = W.heap[Bs]? ∧ W'.heap[Bv]? = W.heap[Bv]?
theorem boxed_of {W W' : World} {B : Nat} {t : TypeId} {v : Value} (h : Boxed W B t v) (e : W'.heap[B]? = W.heap[B]?) : Boxed W' B t v:=e.trans h
def lsS (ys : List ByteArray) : List (List UInt8):=ys.map (fun y => y.data.toList)

/-- The length of the text that a box holds. -/
def sizeAt (B : Nat) (w : World) : Nat:=match w.cell? ⟨B,0,none⟩ with
 | some (.string s) => s.size
 | _ => 0
theorem sizeAt_of {B : Nat} {w : World} {s : ByteArray} (h : Boxed w B 9 (.string s)) : sizeAt B w = s.size:=by rw [sizeAt,h.cell]
set_option maxRecDepth 100000 in
set_option maxHeartbeats 2000000 in
theorem split_stops (n : Nat) (hn : 1 ≤ n) (Bp Bs Bv : Nat) (h1 : Bp ≠ Bs) (h2 : Bv ≠ Bs) (c : UInt8) (s : ByteArray) (w : World) (hs : s.size ≤ 140737488355328)
  (bp : Boxed w Bp 9 (.string ⟨#[c]⟩)) (bs : Boxed w Bs 9 (.string s)) (bv : Boxed w Bv 3 (.int .i64 0)) :
  SeqZ Fence.wide n Tryd.prog 117 #[.pointer (some ⟨Bp,0,none⟩),.pointer (some ⟨Bs,0,none⟩),.pointer (some ⟨Bv,0,none⟩)] (fun y : ByteArray => #[.string y]) (KpS Bp Bs Bv) (fun r => r = Bs)
   (fun ys => lsS ys = pieces c s.data.toList) (fun pre => lsS pre <+: pieces c s.data.toList) (pieces c s.data.toList).length w:=by
 intro l J Jx W hW hJ hJx hY h0
 replace bp : Boxed W Bp 9 (.string ⟨#[c]⟩):=(hW.block _ bp.lt).trans bp
 replace bs : Boxed W Bs 9 (.string s):=(hW.block _ bs.lt).trans bs
 replace bv : Boxed W Bv 3 (.int .i64 0):=(hW.block _ bv.lt).trans bv
 clear hW
 show CallsIn Fence.wide n Tryd.prog 117 #[.func (.yield l) #[] #[],.pointer (some ⟨Bp,0,none⟩),.pointer (some ⟨Bs,0,none⟩),.pointer (some ⟨Bv,0,none⟩)] W _
 refine callsIn_of_wp Tryd.func117 rfl trivial ?_ rfl
 simp only [Tryd.ntmps117,List.size_toArray,List.length_cons,List.length_nil,Nat.reduceAdd,Nat.reduceSub,Array.replicate_succ,Array.replicate_zero,List.push_toArray,List.append_toArray,List.nil_append,List.cons_append]
 have cp:=bp.cell
 gi_wp2
 gi_loopw [] (fun wr => ∃ (cur : ByteArray) (pre : List ByteArray),J pre wr ∧ Boxed wr Bp 9 (.string ⟨#[c]⟩) ∧ Boxed wr Bs 9 (.string cur) ∧ Boxed wr Bv 3 (.int .i64 0) ∧ cur.size ≤ 140737488355328 ∧ lsS pre ++ pieces c cur.data.toList = pieces c s.data.toList)
  (fun wr => sizeAt Bs wr)
 case atStart => exact ⟨s,[],h0,bp,bs,bv,hs,rfl⟩
 case round =>
  clear bp bs bv cp h0 hs
  obtain ⟨cur,pre,hJ0,bp,bs,bv,hc,hpc⟩:=hrel
  have cp:=bp.cell
  have cs:=bs.cell
  have cv:=bv.cell
  have fs:=bs.frozen
  have hlen : pre.length + (pieces c cur.data.toList).length = (pieces c s.data.toList).length:=by rw [← hpc]; simp [lsS]
  have hI:=Tryd.strings_Index_one cur c
  by_cases hi : Lib.indexByte cur.data.toList c = -1
  ·rw [hi] at hI
   have hp1:=pieces_none c _ hi
   obtain ⟨fn,tmps,assign,body,hy,hR⟩:=hY pre cur wr hJ0 (by rw [hp1] at hlen; simp at hlen; omega)
   have HPC:=Lib.hid hpc
   clear hpc hlen
   gi_wp2_with (refine ⟨trivial,?_⟩; gi_at_call 105; refine (callsIn_wide.2 (hI _)).mono ?_; rintro e w1 ⟨rfl,hw1⟩; rw [hw1])
   refine hR.mono ?_
   rintro e W3 (⟨rfl,hJ3,hk3⟩ | ⟨rfl,hJx3⟩)
   ·gi_wp2
    go_end0
    exact ⟨⟨_,rfl⟩,.inl ⟨pre ++ [cur],by rw [← HPC.out,hp1]; simp [lsS],hJ3⟩⟩
   ·gi_wp2
    go_end0
    exact ⟨⟨_,rfl⟩,.inr ⟨pre ++ [cur],by rw [← HPC.out,hp1]; simp [lsS],hJx3⟩⟩
  ·obtain ⟨i,hi'⟩ : ∃ i : Nat,Lib.indexByte cur.data.toList c = (i : Int):=⟨(Lib.indexByte cur.data.toList c).toNat,by have:=Lib.indexByte_ge cur.data.toList c; omega⟩
   clear hi
   rw [hi'] at hI
   obtain ⟨hil,hp1⟩:=pieces_some c _ i hi'
   clear hi'
   have hil' : i < cur.size:=by rw [Array.length_toList] at hil; exact hil
   clear hil
   have t1 : (cur.extract 0 i).data.toList = cur.data.toList.take i:=by simp
   have t2 : (cur.extract (i + 1) cur.size).data.toList = cur.data.toList.drop (i + 1):=by
    simp only [ByteArray.data_extract,Array.toList_extract]
    exact List.take_of_length_le (by simp)
   rw [← t1,← t2] at hp1
   have tz : (cur.extract (i + 1) cur.size).size = cur.size - (i + 1):=by simp
   clear t1 t2
   obtain ⟨fn,tmps,assign,body,hy,hR⟩:=hY pre (cur.extract 0 i) wr hJ0 (by
    rw [hp1] at hlen
    have:=pieces_pos c (cur.extract (i + 1) cur.size).data.toList
    simp only [List.length_cons] at hlen
    omega)
   have hw0 : IntKind.i64.wrap (i : Int) = (i : Int):=wrap_small _ (by omega) (by omega)
   have hw1 : IntKind.i64.wrap ((i : Int) + 1) = (i : Int) + 1:=wrap_small _ (by omega) (by omega)
   have sl1 : ∀ W,(Instr.slice 9 (.string cur) none (some (.int .i64 (IntKind.i64.wrap (i : Int)))) none).run Tryd.prog W = .ok (.string (cur.extract 0 i)) W:=fun W => by
    rw [hw0,run_slice_string_to_if W 9 cur .i64 _ Tryd.underlying9,if_pos ⟨by omega,by omega⟩,Int.toNat_natCast]
   have sl2 : ∀ W,(Instr.slice 9 (.string cur) (some (.int .i64 (IntKind.i64.wrap ((i : Int) + 1)))) none none).run Tryd.prog W = .ok (.string (cur.extract (i + 1) cur.size)) W:=fun W => by
    rw [hw1,run_slice_string_from_if W 9 cur .i64 _ Tryd.underlying9,if_pos ⟨by omega,by omega⟩]
    rfl
   clear hw0 hw1
   have HPC:=Lib.hid hpc
   have HP1:=Lib.hid hp1
   clear hpc hlen hp1
   gi_wp2_with (refine ⟨trivial,?_⟩; gi_at_call 105; refine (callsIn_wide.2 (hI _)).mono ?_; rintro e w1 ⟨rfl,hw1⟩; rw [hw1])
   refine hR.mono ?_
   rintro e W3 (⟨rfl,hJ3,hk3⟩ | ⟨rfl,hJx3⟩)
   ·have bp3:=boxed_of bp hk3.1
    have bs3:=boxed_of bs hk3.2.1
    have bv3:=boxed_of bv hk3.2.2
    have cp3:=bp3.cell
    have cs3:=bs3.cell
    have fs3:=bs3.frozen
    gi_wp2
    go_roundw
    case rel => exact ⟨cur.extract (i + 1) cur.size,pre ++ [cur.extract 0 i],hJ _ _ _ _ hJ3 (grownBy_setCell' _ _ _) (fun r e => .inr (Option.some.inj e).symm),bp3.other h1 _,bs3.set _,bv3.other h2 _,by omega,by rw [← HPC.out,HP1.out]; simp [lsS]⟩
    case measure => rw [sizeAt_of (bs3.set _),sizeAt_of bs]; omega
   ·gi_wp2
    refine bodyPost_ret (results_none rfl _ _ _) rfl ?_
    exact ⟨⟨_,rfl⟩,.inr ⟨pre ++ [cur.extract 0 i],by rw [← HPC.out,HP1.out]; simp [lsS],hJx3⟩⟩
end Go.Proofs.YthhohbidjhcjeaaDoor.H

namespace Go.Proofs.YthhohbidjhcjeaaDoor.H
open Go.RowKit Go.Shelf Go.Proofs.YthhohbidjhcjeaaDoor.RB
attribute [local go_sem] Oper.semAt_some

/-- Is a text a path? -/
def rightB (s : ByteArray) : Bool:=(pieces 47 s.data.toList).all (fun y => partB ⟨y.toArray⟩) && decide ((pieces 47 s.data.toList).length ≤ 8)
theorem splitSeq1_in (n : Nat) (s sep : ByteArray) (w : World) :
  CallsIn Fence.wide n Tryd.prog 99 #[.string s,.string sep,.int .i64 0] w fun e w' => e = .returned (.func (.func 117) #[] #[.pointer (some ⟨w.heap.size + 1,0,none⟩),.pointer (some ⟨w.heap.size,0,none⟩),.pointer (some ⟨w.heap.size + 2,0,none⟩)]) ∧
   w' = ((w.alloc (.cells #[.string s] 9)).alloc (.cells #[.string sep] 9)).alloc (.cells #[.int .i64 0] 3):=by
 refine callsIn_of_wp Tryd.func99 rfl trivial ?_ rfl
 simp only [Tryd.ntmps99,List.size_toArray,List.length_cons,List.length_nil,Nat.reduceAdd,Nat.reduceSub,Array.replicate_succ,Array.replicate_zero,List.push_toArray,List.append_toArray,List.nil_append,List.cons_append]
 gi_wp2
 go_ret
 exact ⟨rfl,rfl⟩
theorem splitSeq_in (n : Nat) (s sep : ByteArray) (w : World) :
  CallsIn Fence.wide n Tryd.prog 76 #[.string s,.string sep] w fun e w' => e = .returned (.func (.func 117) #[] #[.pointer (some ⟨w.heap.size + 1,0,none⟩),.pointer (some ⟨w.heap.size,0,none⟩),.pointer (some ⟨w.heap.size + 2,0,none⟩)]) ∧
   w' = ((w.alloc (.cells #[.string s] 9)).alloc (.cells #[.string sep] 9)).alloc (.cells #[.int .i64 0] 3):=by
 refine callsIn_of_wp Tryd.func76 rfl trivial ?_ rfl
 simp only [Tryd.ntmps76,List.size_toArray,List.length_cons,List.length_nil,Nat.reduceAdd,Nat.reduceSub,Array.replicate_succ,Array.replicate_zero,List.push_toArray,List.append_toArray,List.nil_append,List.cons_append]
 gi_wp2_with (refine ⟨trivial,(by intro h; cases h),?_⟩; gi_at_call 99; refine (splitSeq1_in _ _ _ _).mono ?_; rintro e w1 ⟨rfl,rfl⟩)
 go_ret
 exact ⟨rfl,rfl⟩

set_option maxRecDepth 100000 in
set_option maxHeartbeats 2000000 in
theorem right_in (s : ByteArray) (w : World) (hs : s.size ≤ 140737488355328) :
  CallsIn Fence.wide 6 Tryd.prog 46 #[.string s] w fun e w' => e = .returned (.bool (rightB s)) ∧ Below w.heap.size w w':=by
 refine callsIn_of_wp_marks Tryd.func46 rfl trivial ?_ rfl
 simp only [Tryd.ntmps46,List.size_toArray,List.length_cons,List.length_nil,Nat.reduceAdd,Nat.reduceSub,Array.replicate_succ,Array.replicate_zero,List.push_toArray,List.append_toArray,List.nil_append,List.cons_append]
 gi_wp2_with (refine ⟨trivial,?_⟩; gi_at_call 76; refine (splitSeq_in _ _ _ _).mono ?_; rintro e w1 ⟨rfl,rfl⟩)
 have bR:=(((((Boxed.new w 4 (.bool false)).alloc (.cells #[.int .i64 0] 3)).alloc (.cells #[.string s] 9)).alloc (.cells #[.string ⟨#[47]⟩] 9)).alloc (.cells #[.int .i64 0] 3))
 have bN:=((((Boxed.new (w.alloc (.cells #[.bool false] 4)) 3 (.int .i64 0)).alloc (.cells #[.string s] 9)).alloc (.cells #[.string ⟨#[47]⟩] 9)).alloc (.cells #[.int .i64 0] 3))
 have bs:=((Boxed.new ((w.alloc (.cells #[.bool false] 4)).alloc (.cells #[.int .i64 0] 3)) 9 (.string s)).alloc (.cells #[.string ⟨#[47]⟩] 9)).alloc (.cells #[.int .i64 0] 3)
 have bp:=(Boxed.new (((w.alloc (.cells #[.bool false] 4)).alloc (.cells #[.int .i64 0] 3)).alloc (.cells #[.string s] 9)) 9 (.string ⟨#[47]⟩)).alloc (.cells #[.int .i64 0] 3)
 have bv:=Boxed.new ((((w.alloc (.cells #[.bool false] 4)).alloc (.cells #[.int .i64 0] 3)).alloc (.cells #[.string s] 9)).alloc (.cells #[.string ⟨#[47]⟩] 9)) 3 (.int .i64 0)
 simp only [World.size_alloc] at bN bs bp bv
 have hB0 : Below w.heap.size w (((((w.alloc (.cells #[.bool false] 4)).alloc (.cells #[.int .i64 0] 3)).alloc (.cells #[.string s] 9)).alloc (.cells #[.string ⟨#[47]⟩] 9)).alloc (.cells #[.int .i64 0] 3)) :=
  (((((Below.refl _ w).alloc (Nat.le_refl _) _).alloc (by simp) _).alloc (by simp; omega) _).alloc (by simp; omega) _).alloc (by simp; omega) _
 have hsz : (((((w.alloc (.cells #[.bool false] 4)).alloc (.cells #[.int .i64 0] 3)).alloc (.cells #[.string s] 9)).alloc (.cells #[.string ⟨#[47]⟩] 9)).alloc (.cells #[.int .i64 0] 3)).heap.size = w.heap.size + 5:=by simp
 obtain ⟨W0,hW0⟩ : ∃ W0,(((((w.alloc (.cells #[.bool false] 4)).alloc (.cells #[.int .i64 0] 3)).alloc (.cells #[.string s] 9)).alloc (.cells #[.string ⟨#[47]⟩] 9)).alloc (.cells #[.int .i64 0] 3)) = W0:=⟨_,rfl⟩
 rw [hW0] at bR bN bs bp bv hB0 hsz ⊢
 clear hW0
 have hpl:=pieces_len 47 s.data.toList
 have hsl : s.data.toList.length = s.size:=by rw [Array.length_toList]; rfl
 refine wpIn_rangeFunc_boxes (F:=Fence.wide) (α:=ByteArray) (Z:=fun r => r = w.heap.size + 1 + 1) rfl (by omega) (gf:=117)
  (lb:=#[.pointer (some ⟨w.heap.size + 1 + 1 + 1,0,none⟩),.pointer (some ⟨w.heap.size + 1 + 1,0,none⟩),.pointer (some ⟨w.heap.size + 1 + 1 + 2,0,none⟩)]) rfl trivial (enters_of Tryd.func117 (by kernel_rfl) rfl)
  (split_stops 5 (by omega) (w.heap.size + 1 + 1 + 1) (w.heap.size + 1 + 1) (w.heap.size + 1 + 1 + 2) (by omega) (by omega) 47 s W0 hs bp bs bv) (fun r e => by omega) ?kt ?kb (Below.refl _ _) (fun _ => rfl)
  (fun pre W => Boxed W w.heap.size 4 (.bool false) ∧ Boxed W (w.heap.size + 1) 3 (.int .i64 (pre.length : Int)) ∧ (∀ y ∈ pre,partB y = true) ∧ Below w.heap.size w W ∧ w.heap.size + 5 ≤ W.heap.size)
  (fun _ pre W => Boxed W w.heap.size 4 (.bool false) ∧ (∃ y ∈ pre,partB y = false) ∧ Below w.heap.size w W)
  ?own ?ownx ⟨bR,bN,by simp,hB0,by omega⟩
  (fun x => { tmps:=#[.string s,undef,.pointer (some ⟨w.heap.size,0,none⟩),.pointer (some ⟨w.heap.size + 1,0,none⟩),.string x,.string s,.func (.func 117) #[] #[.pointer (some ⟨w.heap.size + 1 + 1 + 1,0,none⟩),.pointer (some ⟨w.heap.size + 1 + 1,0,none⟩),.pointer (some ⟨w.heap.size + 1 + 1 + 2,0,none⟩)],.string x,undef,undef,undef,undef,undef,undef,undef],defers:=[] })
  ?assign ?body ?done ?stop
 case kt => exact fun h k => ⟨k.1.trans h.1,k.2.1.trans h.2.1,k.2.2.trans h.2.2⟩
 case kb => exact fun W l o o' hl _ _ _ => ⟨World.putObj_heap_other (by omega),World.putObj_heap_other (by omega),World.putObj_heap_other (by omega)⟩
 case own =>
  rintro pre X Y row ⟨h1,h2,h3,h4,h6⟩ hg hr
  have ne : ∀ B t v,Boxed X B t v → B ≠ w.heap.size + 1 + 1 → some B ≠ row:=fun B t v hb hB e => by
   rcases hr B e.symm with ⟨_,o,ho,hc⟩ | h5
   ·rw [show X.heap[B]? = _ from hb] at ho
    cases ho
    cases hc
   ·exact hB h5
  exact ⟨h1.kept hg (ne _ _ _ h1 (by omega)),h2.kept hg (ne _ _ _ h2 (by omega)),h3,Below.grown h4 hg (by have:=h1.lt; omega) (fun r e => by rcases hr r e with ⟨h5,_⟩ | h5 <;> omega),Nat.le_trans h6 hg.size⟩
 case ownx =>
  rintro _ pre X Y row ⟨h1,h3,h4⟩ hg hr
  have ne : ∀ B t v,Boxed X B t v → B ≠ w.heap.size + 1 + 1 → some B ≠ row:=fun B t v hb hB e => by
   rcases hr B e.symm with ⟨_,o,ho,hc⟩ | h5
   ·rw [show X.heap[B]? = _ from hb] at ho
    cases ho
    cases hc
   ·exact hB h5
  exact ⟨h1.kept hg (ne _ _ _ h1 (by omega)),h3,Below.grown h4 hg (by have:=h1.lt; omega) (fun r e => by rcases hr r e with ⟨h5,_⟩ | h5 <;> omega)⟩
 case assign =>
  intro l x W K hK
  gi_wp2
  exact hK
 case body =>
  rintro l pre x W ⟨h1,h2,h3,h4,h6⟩ hlt
  have hP:=part_calls x
  have c1:=h1.cell
  have f1:=h1.frozen
  have c2:=h2.cell
  have f2:=h2.frozen
  have hw : IntKind.i64.wrap ((pre.length : Int) + 1) = ((pre ++ [x]).length : Int):=by
   rw [wrap_small _ (by omega) (by omega)]
   simp
  cases hb : partB x with
  | false =>
   rw [hb] at hP
   gi_wp2_with (refine ⟨trivial,?_⟩; gi_at_call 77; refine (CallsIn.inRound l (callsIn_wide.2 (hP _))).mono ?_; rintro e w1 ⟨rfl,hb1⟩; have g1:=boxed_of h1 (hb1.block _ h1.lt); have c3:=g1.cell; have f3:=g1.frozen)
   have hke : KeepsOthers W w1:=⟨hb1.size,fun k o hk _ => (hb1.block k (Array.getElem?_eq_some_iff.1 hk).1).trans hk⟩
   refine ⟨(hke.trans (KeepsOthers.setCell _ _ _)).from _,g1.set _,⟨x,by simp,hb⟩,?_⟩
   refine Below.setCell (p:=⟨w.heap.size,0,none⟩) ?_ (Nat.le_refl _) _
   exact h4.trans (hb1.mono h4.size)
  | true =>
   rw [hb] at hP
   gi_wp2_with (refine ⟨trivial,?_⟩; gi_at_call 77; refine (CallsIn.inRound l (callsIn_wide.2 (hP _))).mono ?_; rintro e w1 ⟨rfl,hb1⟩; have g1:=boxed_of h1 (hb1.block _ h1.lt); have g2:=boxed_of h2 (hb1.block _ h2.lt); have c3:=g2.cell; have f3:=g2.frozen)
   have hke : KeepsOthers W w1:=⟨hb1.size,fun k o hk _ => (hb1.block k (Array.getElem?_eq_some_iff.1 hk).1).trans hk⟩
   have hsz1:=hb1.size
   have far : ∀ k,k < w.heap.size + 5 → k ≠ w.heap.size + 1 → ∀ v,(w1.setCell ⟨w.heap.size + 1,0,none⟩ v).heap[k]? = W.heap[k]?:=fun k hk hne v =>
    ((grownBy_setCell' w1 (w.heap.size + 1) v).block k (by omega) (by simp; omega)).trans (hb1.block k (by omega))
   refine ⟨(hke.trans (KeepsOthers.setCell _ _ _)).from _,⟨far _ (by omega) (by omega) _,far _ (by omega) (by omega) _,far _ (by omega) (by omega) _⟩,g1.other (by omega) _,?_,?_,?_,?_⟩
   ·have e : ((pre ++ [x]).length : Int) = (pre.length : Int) + 1:=by simp
    rw [e]
    exact g2.set _
   ·intro y hy
    rcases List.mem_append.1 hy with hy | hy
    ·exact h3 y hy
    ·rw [List.mem_singleton.1 hy]; exact hb
   ·refine Below.setCell (p:=⟨w.heap.size + 1,0,none⟩) ?_ (Nat.le_succ _) _
    exact h4.trans (hb1.mono h4.size)
   ·rw [World.size_setCell]
    omega
 case done =>
  rintro D xs W hD hS ⟨h1,h2,h3,h4,h6⟩ hdf
  have c1:=h1.cell
  have f1:=h1.frozen
  have c2:=h2.cell
  have hr : rightB s = decide ((xs.length : Int) ≤ 8):=by
   have e : xs.length = (pieces 47 s.data.toList).length:=by rw [← hS]; simp [lsS]
   have ha : (pieces 47 s.data.toList).all (fun y => partB ⟨y.toArray⟩) = true:=by
    rw [← hS,List.all_eq_true]
    intro y hy
    obtain ⟨z,hz,rfl⟩:=List.mem_map.1 hy
    exact h3 z hz
   rw [rightB,ha,e,Bool.true_and]
   exact decide_eq_decide.2 (by omega)
  gi_wp2
  have hdf2 : (W.setCell ⟨w.heap.size,0,none⟩ (.bool (decide ((xs.length : Int) ≤ 8)))).heap[D]? = some (.deferred (some [])):=((grownBy_setCell' W w.heap.size _).block D (Array.getElem?_eq_some_iff.1 hdf).1 (by simp; omega)).trans hdf
  refine ⟨by simp,.inl ⟨_,_,rfl,run_takeDeferred hdf2,?_⟩⟩
  have bE : Boxed ((W.setCell ⟨w.heap.size,0,none⟩ (.bool (decide ((xs.length : Int) ≤ 8)))).putObj D (.deferred none)) w.heap.size 4 (.bool (decide ((xs.length : Int) ≤ 8))):=(World.putObj_heap_other (by omega)).trans (h1.set _)
  have cE:=bE.cell
  refine ⟨.bool (decide ((xs.length : Int) ≤ 8)),by simp [results,Tryd.results46,go_sem,cE],by rw [hr],?_⟩
  refine Below.trans ?_ (belowK_b (w:=w) (Nat.le_refl _) _ D _ _ (by omega) hdf2 rfl rfl)
  exact Below.setCell (p:=⟨w.heap.size,0,none⟩) h4 (Nat.le_refl _) _
 case stop =>
  rintro D pre W hD hSp ⟨h1,⟨y,hy,hyp⟩,h4⟩ hdf
  have c1:=h1.cell
  have hr : rightB s = false:=by
   have ha : (pieces 47 s.data.toList).all (fun y => partB ⟨y.toArray⟩) = false:=by
    rw [List.all_eq_false]
    refine ⟨y.data.toList,hSp.subset (List.mem_map.2 ⟨y,hy,rfl⟩),?_⟩
    have : (⟨y.data.toList.toArray⟩ : ByteArray) = y:=rfl
    rw [this,hyp]
    simp
   rw [rightB,ha,Bool.false_and]
  gi_wp2
  refine ⟨by simp,.inl ⟨_,_,rfl,run_takeDeferred hdf,?_⟩⟩
  have bE : Boxed (W.putObj D (.deferred none)) w.heap.size 4 (.bool false):=(World.putObj_heap_other (by omega)).trans h1
  have cE:=bE.cell
  refine ⟨.bool false,by simp [results,Tryd.results46,go_sem,cE],by rw [hr],?_⟩
  exact Below.trans h4 (belowK_b (w:=w) (Nat.le_refl _) _ D _ _ (by omega) hdf rfl rfl)
end Go.Proofs.YthhohbidjhcjeaaDoor.H

namespace Go.Proofs.YthhohbidjhcjeaaDoor.H
open Go.RowKit Go.Shelf Go.Proofs.YthhohbidjhcjeaaDoorW.PrintWords Go.Proofs.YthhohbidjhcjeaaDoorW.PrintLast Go.Proofs.YthhohbidjhcjeaaDoorW.PrintMore

/-- Does a text hold the end of a line? -/
def hasNL (s : ByteArray) : Bool:=decide (0 ≤ Lib.indexByte s.data.toList 10)
def linesB (l : List ByteArray) : Bool:=!(l.any hasNL)
theorem lit_calls (s : ByteArray) (w : World) : Calls Tryd.prog 81 #[.string s] w fun e w' => e = .returned (.bool (hasNL s)) ∧ w' = w:=by
 have hC:=Tryd.strings_Contains_one s 10 w
 have e0 : decide (0 ≤ Lib.indexByte s.data.toList 10) = hasNL s:=rfl
 rw [e0] at hC
 obtain ⟨b,hb⟩ : ∃ b,hasNL s = b:=⟨_,rfl⟩
 rw [hb] at hC ⊢
 clear e0 hb
 go_enter Tryd.func81,Tryd.ntmps81
 go_wp2_with (go_at_call 82; refine hC.mono ?_; rintro e w' ⟨rfl,rfl⟩)
 go_ret
 exact ⟨rfl,rfl⟩
set_option maxHeartbeats 1000000 in
theorem index_calls (A : Option Addr) (c : Nat) (l : List ByteArray) (w : World) (h : Kd.C Kd.string w A l.length l) :
  Calls Tryd.prog 104 #[.slice A l.length c,.func (.func 81) #[] #[]] w fun e w' => (∃ i : Int,e = .returned (.int .i64 i) ∧ decide (0 ≤ i) = l.any hasNL) ∧ w' = w:=by
 have hmax:=Kd.C_max h
 have e81 : ∀ args w,(callFunc 81 args).run Tryd.prog w = .ok (.enter 81 args) w:=enters_of Tryd.func81 (by kernel_rfl) rfl
 go_enter Tryd.func104,Tryd.ntmps104
 go_wp2
 go_loopg [8] l.length (fun gf v8 wx => ∃ j : Nat,v8 = .int .i64 (j : Int) ∧ wx = w ∧ j + gf = l.length ∧ (l.take j).any hasNL = false)
 case atStart => exact ⟨0,rfl,rfl,by omega,by simp⟩
 case round =>
  obtain ⟨j,rfl,rfl,hj,hn⟩:=hrel
  by_cases hlt : j < l.length
  ·obtain ⟨g',rfl⟩ : ∃ g',gk = g' + 1:=⟨gk - 1,by omega⟩
   obtain ⟨ad,rfl,hc⟩:=Kd.at_string h (j : Int) (by omega) (by omega)
   rw [Int.toNat_natCast] at hc
   have hx : rdOf ByteArray.empty l (j : Int) = l[j]:=by
    rw [rdOf,Int.toNat_natCast,List.getD_eq_getElem?_getD,List.getElem?_eq_getElem hlt,Option.getD_some]
   rw [hx] at hc
   have ht : (l.take (j + 1)).any hasNL = hasNL l[j]:=by
    rw [List.take_succ_eq_append_getElem hlt,List.any_append,hn]
    simp
   obtain ⟨x,hxx⟩ : ∃ x,l[j] = x:=⟨_,rfl⟩
   rw [hxx] at hc ht
   have hL:=lit_calls x
   cases hb : hasNL x with
   | true =>
    rw [hb] at hL
    go_wp2_with (go_at_fn 81; refine (hL _).mono ?_; rintro e w' ⟨rfl,hw⟩; rw [hw])
    go_ret
    refine ⟨⟨_,rfl,?_⟩,rfl⟩
    have : l.any hasNL = true:=List.any_eq_true.2 ⟨l[j],List.getElem_mem hlt,by rw [hxx,hb]⟩
    rw [this]
    exact decide_eq_true (by omega)
   | false =>
    rw [hb] at hL
    go_wp2_with (go_at_fn 81; refine (hL _).mono ?_; rintro e w' ⟨rfl,hw⟩; rw [hw])
    go_roundg g'
    case measure => omega
    case rel => exact ⟨j + 1,rfl,rfl,by omega,by rw [ht,hb]⟩
  ·have hjl : j = l.length:=by omega
   subst hjl
   go_wp2
   go_ret
   refine ⟨⟨_,rfl,?_⟩,rfl⟩
   rw [List.take_length] at hn
   rw [hn]
   rfl
theorem lines_calls (A : Option Addr) (c : Nat) (l : List ByteArray) (w : World) (h : Kd.C Kd.string w A l.length l) :
  Calls Tryd.prog 49 #[.slice A l.length c] w fun e w' => e = .returned (.bool (linesB l)) ∧ w' = w:=by
 have hC : Calls Tryd.prog 80 #[.slice A l.length c,.func (.func 81) #[] #[]] w fun e w' => e = .returned (.bool (l.any hasNL)) ∧ w' = w:=by
  have hI:=index_calls A c l w h
  obtain ⟨b,hb⟩ : ∃ b,l.any hasNL = b:=⟨_,rfl⟩
  rw [hb] at hI ⊢
  clear h hb
  go_enter Tryd.func80,Tryd.ntmps80
  go_wp2_with (go_at_call 104; refine hI.mono ?_; rintro e w' ⟨⟨i,rfl,hi⟩,rfl⟩)
  all_goals go_ret
  all_goals exact ⟨by simp_all,rfl⟩
 unfold linesB
 obtain ⟨b,hb⟩ : ∃ b,l.any hasNL = b:=⟨_,rfl⟩
 rw [hb] at hC ⊢
 clear h hb
 go_enter Tryd.func49,Tryd.ntmps49
 go_wp2_with (go_at_call 80; refine hC.mono ?_; rintro e w' ⟨rfl,rfl⟩)
 go_ret
 exact ⟨rfl,rfl⟩
end Go.Proofs.YthhohbidjhcjeaaDoor.H
namespace Go.Proofs.YthhohbidjhcjeaaDoor.Q
open Go.RowKit Go.Proofs.YthhohbidjhcjeaaDoorW.PrintWords Go.Proofs.YthhohbidjhcjeaaDoorW.PrintLast Go.Proofs.YthhohbidjhcjeaaDoorW.PrintMore Go.Proofs.YthhohbidjhcjeaaDoor.H
/-! ### in the printed form -/
def path_Right.f (a0 : ByteArray) : Option Bool:=if a0.size ≤ 140737488355328 then some (rightB a0) else none
theorem path_Right.calls (a0 : ByteArray) (r : Bool) (w : World) (h : path_Right.f a0 = some r) : Calls Tryd.prog 46 #[.string a0] w fun e w' => e = .returned (.bool r) ∧ Below w.heap.size w w':=by
 unfold path_Right.f at h
 split at h
 ·rename_i hl
  obtain rfl:=Option.some.inj h
  exact callsIn_wide.1 (right_in a0 w hl)
 ·cases h
def lines_Right.f (l0 : List ByteArray) : Option Bool:=some (linesB l0)
theorem lines_Right.calls (A0 : Option Addr) (c0 : Nat) (l0 : List ByteArray) (r : Bool) (w : World) (hr0 : Kd.C Kd.string w A0 l0.length l0) (_hc0 : l0.length ≤ c0) (h : lines_Right.f l0 = some r) :
  Calls Tryd.prog 49 #[.slice A0 l0.length c0] w fun e w' => e = .returned (.bool r) ∧ Drawn0 w w':=by
 obtain rfl:=Option.some.inj h
 refine (lines_calls A0 c0 l0 w hr0).mono ?_
 rintro e w' ⟨rfl,rfl⟩
 exact ⟨rfl,Drawn0.refl _⟩
end Go.Proofs.YthhohbidjhcjeaaDoor.Q
namespace Go.Proofs.YthhohbidjhcjeaaDoor.Q
open Go.RowKit Go.Proofs.YthhohbidjhcjeaaDoorW.PrintWords Go.Proofs.YthhohbidjhcjeaaDoorW.PrintLast Go.Proofs.YthhohbidjhcjeaaDoorW.PrintMore
attribute [local go_sem] max2_int min2_int max_two min_two max_three min_three max_four min_four   -- for this text's walks alone
set_option linter.unusedVariables false
set_option linter.unusedSimpArgs false

/-! ### prim_Right: function 19 -/
mutual
def prim_Right.j0 : Nat → Bool → Int → ByteArray → ByteArray → ByteArray → Int → List ByteArray → List ByteArray → Option (Bool)
 | 0,_,_,_,_,_,_,_,_ => none
 | k + 1,x3,x115000,x115001,x115002,x115003,x115004,x115005,x115006 => (path_Right.f x115001).bind fun t115 => (if t115 = true then (if x3 = true then (prim_Right.j1 k (x115000 != 7) x115000 x115001 x115002 x115003 x115004 x115005 x115006) else (prim_Right.j1 k false x115000 x115001 x115002 x115003 x115004 x115005 x115006)) else (prim_Right.j1 k (!t115) x115000 x115001 x115002 x115003 x115004 x115005 x115006))
def prim_Right.j1 : Nat → Bool → Int → ByteArray → ByteArray → ByteArray → Int → List ByteArray → List ByteArray → Option (Bool)
 | 0,_,_,_,_,_,_,_,_ => none
 | k + 1,x17,x115000,x115001,x115002,x115003,x115004,x115005,x115006 => if x17 = true then (some false) else (if x115000 = 8 then ((lines_Token.f k x115003).bind fun t116 => (if t116 = true then ((lines_Token.f k x115002).bind fun t117 => (if t117 = true then (some (x115003.toList != x115002.toList)) else (some false))) else (some false))) else (if x115000 = 9 then (some (x115003.toList != x115002.toList)) else (if x115003.toList = ([] : List UInt8) then (if x115000 = 10 then ((path_Right.f x115002).bind fun t118 => (if t118 = true then ((path_Apart.f x115001 x115002).bind fun t119 => (some t119)) else (some false))) else (if x115000 = 7 then (if x115002.toList = ([] : List UInt8) then (if x115004 ≥ 0 then (if x115004 ≤ 1073741824 then ((lines_Right.f x115005).bind fun t120 => (if t120 = true then ((lines_Right.f x115006).bind fun t121 => (if t121 = true then (some (decide ((wrap64 ((x115005.length : Int) + (x115006.length : Int))) > 0))) else (some false))) else (some false))) else (some false)) else (some false)) else (some false)) else (if x115002.toList = ([] : List UInt8) then (if x115000 ≥ 1 then (some (decide (x115000 ≤ 6))) else (some false)) else (some false)))) else (some false))))
end
def prim_Right.f (k : Nat) (a0_0 : Int) (a0_1 : ByteArray) (a0_2 : ByteArray) (a0_3 : ByteArray) (a0_4 : Int) (l0_5 : List ByteArray) (l0_6 : List ByteArray) : Option (Bool):=if (wrap64 ((l0_5.length : Int) + (l0_6.length : Int))) > 0 then (prim_Right.j0 k true a0_0 a0_1 a0_2 a0_3 a0_4 l0_5 l0_6) else (prim_Right.j0 k (a0_4 != 0) a0_0 a0_1 a0_2 a0_3 a0_4 l0_5 l0_6)
theorem prim_Right.mono_l : ∀ k,(∀ y0 y1 y2 y3 y4 y5 y6 y7,LeO (prim_Right.j0 k y0 y1 y2 y3 y4 y5 y6 y7) (prim_Right.j0 (k + 1) y0 y1 y2 y3 y4 y5 y6 y7)) ∧ (∀ y0 y1 y2 y3 y4 y5 y6 y7,LeO (prim_Right.j1 k y0 y1 y2 y3 y4 y5 y6 y7) (prim_Right.j1 (k + 1) y0 y1 y2 y3 y4 y5 y6 y7))
 | 0 => ⟨fun _ _ _ _ _ _ _ _ r h => by simp [prim_Right.j0] at h,fun _ _ _ _ _ _ _ _ r h => by simp [prim_Right.j1] at h⟩
 | k + 1 => by
  obtain ⟨ih0,ih1⟩:=prim_Right.mono_l k
  refine ⟨?_,?_⟩
  ·intro y0 y1 y2 y3 y4 y5 y6 y7
   unfold prim_Right.j0
   repeat' first
   | (with_reducible exact ih0 _ _ _ _ _ _ _ _)
   | (with_reducible exact ih1 _ _ _ _ _ _ _ _)
   | (with_reducible exact lines_Token.mono _ _)
   | (with_reducible exact LeO.refl _)
   | (with_reducible exact LeO.none _)
   | (with_reducible refine LeO.ite ?_ ?_)
   | (with_reducible refine LeO.bind ?_ (fun _ => ?_))
   | exact ih0 _ _ _ _ _ _ _ _
   | exact ih1 _ _ _ _ _ _ _ _
   | exact lines_Token.mono _ _
   | exact LeO.none _
   | refine LeO.ite ?_ ?_
   | refine LeO.bind ?_ (fun _ => ?_)
  ·intro y0 y1 y2 y3 y4 y5 y6 y7
   unfold prim_Right.j1
   repeat' first
   | (with_reducible exact ih0 _ _ _ _ _ _ _ _)
   | (with_reducible exact ih1 _ _ _ _ _ _ _ _)
   | (with_reducible exact lines_Token.mono _ _)
   | (with_reducible exact LeO.refl _)
   | (with_reducible exact LeO.none _)
   | (with_reducible refine LeO.ite ?_ ?_)
   | (with_reducible refine LeO.bind ?_ (fun _ => ?_))
   | exact ih0 _ _ _ _ _ _ _ _
   | exact ih1 _ _ _ _ _ _ _ _
   | exact lines_Token.mono _ _
   | exact LeO.none _
   | refine LeO.ite ?_ ?_
   | refine LeO.bind ?_ (fun _ => ?_)
theorem prim_Right.mono : ∀ a0 a1 a2 a3 a4 a5 a6 k,LeO (prim_Right.f k a0 a1 a2 a3 a4 a5 a6) (prim_Right.f (k + 1) a0 a1 a2 a3 a4 a5 a6):=by
 intro a0 a1 a2 a3 a4 a5 a6 k
 obtain ⟨ih0,ih1⟩:=prim_Right.mono_l k
 unfold prim_Right.f
 repeat' first
   | (with_reducible exact ih0 _ _ _ _ _ _ _ _)
   | (with_reducible exact ih1 _ _ _ _ _ _ _ _)
   | (with_reducible exact lines_Token.mono _ _)
   | (with_reducible exact LeO.refl _)
   | (with_reducible exact LeO.none _)
   | (with_reducible refine LeO.ite ?_ ?_)
   | (with_reducible refine LeO.bind ?_ (fun _ => ?_))
   | exact ih0 _ _ _ _ _ _ _ _
   | exact ih1 _ _ _ _ _ _ _ _
   | exact lines_Token.mono _ _
   | exact LeO.none _
   | refine LeO.ite ?_ ?_
   | refine LeO.bind ?_ (fun _ => ?_)
set_option maxHeartbeats 8000000 in
set_option maxRecDepth 100000 in
theorem prim_Right.calls (k : Nat) (a0_0 : Int) (a0_1 : ByteArray) (a0_2 : ByteArray) (a0_3 : ByteArray) (a0_4 : Int) (A0_5 : Option Addr) (c0_5 : Nat) (l0_5 : List ByteArray) (A0_6 : Option Addr) (c0_6 : Nat) (l0_6 : List ByteArray) (r : Bool) (w : World) (hr0_5 : Kd.C Kd.string w A0_5 l0_5.length l0_5) (hc0_5 : l0_5.length ≤ c0_5) (hr0_6 : Kd.C Kd.string w A0_6 l0_6.length l0_6) (hc0_6 : l0_6.length ≤ c0_6) (h : prim_Right.f k a0_0 a0_1 a0_2 a0_3 a0_4 l0_5 l0_6 = some r) :
  Calls Tryd.prog 19 #[.agg #[.int .i64 a0_0,.string a0_1,.string a0_2,.string a0_3,.int .i64 a0_4,.slice A0_5 l0_5.length c0_5,.slice A0_6 l0_6.length c0_6]] w fun e w' => e = .returned (.bool r) ∧ Below w.heap.size w w':=by
 have hu24:=Tryd.underlying24
 have HR0_5:=Aside0.mk hr0_5
 have HC0_5:=Aside0.mk hc0_5
 clear hr0_5 hc0_5
 have HR0_6:=Aside0.mk hr0_6
 have HC0_6:=Aside0.mk hc0_6
 clear hr0_6 hc0_6
 have HB:=Aside0.mk (Below.refl w.heap.size w)
 have H : (if (wrap64 ((l0_5.length : Int) + (l0_6.length : Int))) > 0 then (prim_Right.j0 k true a0_0 a0_1 a0_2 a0_3 a0_4 l0_5 l0_6) else (prim_Right.j0 k (a0_4 != 0) a0_0 a0_1 a0_2 a0_3 a0_4 l0_5 l0_6)) = some r:=h
 clear h
 have HC2:=Aside0.mk H
 clear H
 go_enter Tryd.func19,Tryd.ntmps19
 go_upto_region 1 with (((with_reducible refine gate_dst (N:=1) rfl ?_); (try (refine gate_guard (by rfl) ?_; dsimp only)); refine box_event ?hg (N:=1) ?hd (cs:=#[.int .i64 a0_0,.string a0_1,.string a0_2,.string a0_3,.int .i64 a0_4,.slice A0_5 l0_5.length c0_5,.slice A0_6 l0_6.length c0_6]) (t:=24) ?hr ?_; (case hd => rfl); (case hg => rfl); (case hr => first | (go_simp; done) | (go_simp; rfl)); intro gb114 hg w3 hbox hb; have n0_:=Aside0.mk (below_step (by repeat (first | (with_reducible first | exact HB.out | apply below_alloc | apply pw_below_drewN | apply below_drew1) | exact HB.out)) hb); have n1_:=Aside0.mk (hbox); have n2_:=Aside0.mk ((by rw [hg]; exact (below_size (by repeat (first | (with_reducible first | exact HB.out | apply below_alloc | apply pw_below_drewN | apply below_drew1) | exact HB.out))) : w.heap.size ≤ gb114)); have n3_:=Aside0.mk ((by rw [hg]; exact (below_size (by repeat (first | (with_reducible first | exact HB.out | apply below_alloc | apply pw_below_drewN | apply below_drew1) | exact HB.out))) : w.heap.size ≤ gb114)); clear HB; have HB:=n0_; have BK114:=n1_; have GW114:=n2_; have GE114:=n3_; clear n0_ n1_ n2_ n3_; clear hb hbox hg))
 (try simp only [Act.put,List.setIfInBounds_toArray,List.set_cons_zero,List.set_cons_succ])
 go_cut [3] (fun v3 wc => ∃ (kq : Nat) (x3_1 : Bool),v3 = .bool x3_1 ∧ Aside0 (prim_Right.j0 kq x3_1 a0_0 a0_1 a0_2 a0_3 a0_4 l0_5 l0_6 = some r) ∧ Aside0 (kq ≤ k) ∧ Aside0 (wc.heap[gb114]? = some (.cells #[.int .i64 a0_0,.string a0_1,.string a0_2,.string a0_3,.int .i64 a0_4,(.slice A0_5 l0_5.length c0_5),(.slice A0_6 l0_6.length c0_6)] 24 (0,0))) ∧ Aside0 (Below w.heap.size w wc))
 case first =>
  have H:=HC2.out
  clear HC2
  by_cases c4 : (wrap64 ((l0_5.length : Int) + (l0_6.length : Int))) > 0
  ·rw [if_pos c4] at H
   have c4b0 : decide (0 < (wrap64 ((l0_5.length : Int) + (l0_6.length : Int)))) = true:=decide_eq_true c4
   clear c4
   (first | rw [c4b0] | (simp only [i64_w,i32_w]; rw [c4b0]) | skip)
   have H':=Aside0.mk H
   clear H
   have hcz5_0 : w3.cell? ⟨gb114,0,none⟩ = some (.int .i64 a0_0):=(blk_cell BK114.out 0).trans rfl
   have hcz5_1 : w3.cell? ⟨gb114,1,none⟩ = some (.string a0_1):=(blk_cell BK114.out 1).trans rfl
   have hcz5_2 : w3.cell? ⟨gb114,2,none⟩ = some (.string a0_2):=(blk_cell BK114.out 2).trans rfl
   have hcz5_3 : w3.cell? ⟨gb114,3,none⟩ = some (.string a0_3):=(blk_cell BK114.out 3).trans rfl
   have hcz5_4 : w3.cell? ⟨gb114,4,none⟩ = some (.int .i64 a0_4):=(blk_cell BK114.out 4).trans rfl
   have hcz5_5 : w3.cell? ⟨gb114,5,none⟩ = some (.slice A0_5 l0_5.length c0_5):=(blk_cell BK114.out 5).trans rfl
   have hcz5_6 : w3.cell? ⟨gb114,6,none⟩ = some (.slice A0_6 l0_6.length c0_6):=(blk_cell BK114.out 6).trans rfl
   have hfz5_0:=blk_frozen BK114.out 0
   have hfz5_1:=blk_frozen BK114.out 1
   have hfz5_2:=blk_frozen BK114.out 2
   have hfz5_3:=blk_frozen BK114.out 3
   have hfz5_4:=blk_frozen BK114.out 4
   have hfz5_5:=blk_frozen BK114.out 5
   have hfz5_6:=blk_frozen BK114.out 6
   go_wp2
   go_meet
   case rel => exact ⟨_,(true),(by first | rfl | (simp; done) | (simp [*]; done)),H',⟨by first | omega | exact Nat.le_refl _⟩,⟨by (with_reducible repeat (first | refine blk_drewN ?_ _ | refine blk_drew ?_ | refine blk_alloc ?_ _)); exact BK114.out⟩,⟨by repeat (first | (with_reducible first | exact HB.out | apply below_alloc | apply pw_below_drewN | apply below_drew1 | refine below_set ?_ GE114.out) | exact HB.out)⟩⟩
  ·rw [if_neg c4] at H
   have c4b0 : decide (0 < (wrap64 ((l0_5.length : Int) + (l0_6.length : Int)))) = false:=decide_eq_false c4
   clear c4
   (first | rw [c4b0] | (simp only [i64_w,i32_w]; rw [c4b0]) | skip)
   have H':=Aside0.mk H
   clear H
   have hcz6_0 : w3.cell? ⟨gb114,0,none⟩ = some (.int .i64 a0_0):=(blk_cell BK114.out 0).trans rfl
   have hcz6_1 : w3.cell? ⟨gb114,1,none⟩ = some (.string a0_1):=(blk_cell BK114.out 1).trans rfl
   have hcz6_2 : w3.cell? ⟨gb114,2,none⟩ = some (.string a0_2):=(blk_cell BK114.out 2).trans rfl
   have hcz6_3 : w3.cell? ⟨gb114,3,none⟩ = some (.string a0_3):=(blk_cell BK114.out 3).trans rfl
   have hcz6_4 : w3.cell? ⟨gb114,4,none⟩ = some (.int .i64 a0_4):=(blk_cell BK114.out 4).trans rfl
   have hcz6_5 : w3.cell? ⟨gb114,5,none⟩ = some (.slice A0_5 l0_5.length c0_5):=(blk_cell BK114.out 5).trans rfl
   have hcz6_6 : w3.cell? ⟨gb114,6,none⟩ = some (.slice A0_6 l0_6.length c0_6):=(blk_cell BK114.out 6).trans rfl
   have hfz6_0:=blk_frozen BK114.out 0
   have hfz6_1:=blk_frozen BK114.out 1
   have hfz6_2:=blk_frozen BK114.out 2
   have hfz6_3:=blk_frozen BK114.out 3
   have hfz6_4:=blk_frozen BK114.out 4
   have hfz6_5:=blk_frozen BK114.out 5
   have hfz6_6:=blk_frozen BK114.out 6
   go_wp2
   go_meet
   case rel => exact ⟨_,((a0_4 != 0)),(by first | rfl | (simp; done) | (simp [*]; done)),H',⟨by first | omega | exact Nat.le_refl _⟩,⟨by (with_reducible repeat (first | refine blk_drewN ?_ _ | refine blk_drew ?_ | refine blk_alloc ?_ _)); exact BK114.out⟩,⟨by repeat (first | (with_reducible first | exact HB.out | apply below_alloc | apply pw_below_drewN | apply below_drew1 | refine below_set ?_ GE114.out) | exact HB.out)⟩⟩
 case rest =>
  clear HC2
  try clear c1
  try clear p2
  try clear c4
  try clear c4b0
  try clear p6
  try clear hcz5_0
  try clear hcz5_1
  try clear hcz5_2
  try clear hcz5_3
  try clear hcz5_4
  try clear hcz5_5
  try clear hcz5_6
  try clear hcz6_0
  try clear hcz6_1
  try clear hcz6_2
  try clear hcz6_3
  try clear hcz6_4
  try clear hcz6_5
  try clear hcz6_6
  try clear hfz5_0
  try clear hfz5_1
  try clear hfz5_2
  try clear hfz5_3
  try clear hfz5_4
  try clear hfz5_5
  try clear hfz5_6
  try clear hfz6_0
  try clear hfz6_1
  try clear hfz6_2
  try clear hfz6_3
  try clear hfz6_4
  try clear hfz6_5
  try clear hfz6_6
  obtain ⟨kq,x3_1,rfl,HA,HJ1,BK114,HB⟩:=hcut
  cases kq with
  | zero => exact absurd HA.out (by simp [prim_Right.j0])
  | succ kj1 =>
   have H:=HA.out
   clear HA
   simp only [prim_Right.j0] at H
   replace H:=Option.bind_eq_some_iff.mp H
   obtain ⟨t115,A70,H⟩:=H
   replace H : (if t115 = true then (if x3_1 = true then (prim_Right.j1 kj1 (a0_0 != 7) a0_0 a0_1 a0_2 a0_3 a0_4 l0_5 l0_6) else (prim_Right.j1 kj1 false a0_0 a0_1 a0_2 a0_3 a0_4 l0_5 l0_6)) else (prim_Right.j1 kj1 (!t115) a0_0 a0_1 a0_2 a0_3 a0_4 l0_5 l0_6)) = some r:=H
   have A7:=Aside0.mk A70
   clear A70
   have HC8:=Aside0.mk H
   clear H
   have hcz9_0 : wc.cell? ⟨gb114,0,none⟩ = some (.int .i64 a0_0):=(blk_cell BK114.out 0).trans rfl
   have hcz9_1 : wc.cell? ⟨gb114,1,none⟩ = some (.string a0_1):=(blk_cell BK114.out 1).trans rfl
   have hcz9_2 : wc.cell? ⟨gb114,2,none⟩ = some (.string a0_2):=(blk_cell BK114.out 2).trans rfl
   have hcz9_3 : wc.cell? ⟨gb114,3,none⟩ = some (.string a0_3):=(blk_cell BK114.out 3).trans rfl
   have hcz9_4 : wc.cell? ⟨gb114,4,none⟩ = some (.int .i64 a0_4):=(blk_cell BK114.out 4).trans rfl
   have hcz9_5 : wc.cell? ⟨gb114,5,none⟩ = some (.slice A0_5 l0_5.length c0_5):=(blk_cell BK114.out 5).trans rfl
   have hcz9_6 : wc.cell? ⟨gb114,6,none⟩ = some (.slice A0_6 l0_6.length c0_6):=(blk_cell BK114.out 6).trans rfl
   have hfz9_0:=blk_frozen BK114.out 0
   have hfz9_1:=blk_frozen BK114.out 1
   have hfz9_2:=blk_frozen BK114.out 2
   have hfz9_3:=blk_frozen BK114.out 3
   have hfz9_4:=blk_frozen BK114.out 4
   have hfz9_5:=blk_frozen BK114.out 5
   have hfz9_6:=blk_frozen BK114.out 6
   go_upto_if 17 with (first | ((with_reducible refine gate_callee (f:=46) rfl ?_); refine goesL_ (some 20) rfl rfl Tryd.func46 (by kernel_rfl) rfl #[.string a0_1] rfl (by (try simp only [List.map_toArray,List.map_cons,List.map_nil]); first | done | rfl | (simp only [List.length_drop,List.length_take]; rfl)) ?_; (with_reducible refine (path_Right.calls a0_1 t115 _ A7.out).mono ?_); rintro e w10 ⟨rfl,hb⟩; refine ⟨_,rfl,?_⟩; have n0_:=Aside0.mk (blk_below (g:=gb114) (o:=.cells #[.int .i64 a0_0,.string a0_1,.string a0_2,.string a0_3,.int .i64 a0_4,.slice A0_5 l0_5.length c0_5,.slice A0_6 l0_6.length c0_6] 24 (0,0)) (by (with_reducible repeat (first | refine blk_drewN ?_ _ | refine blk_drew ?_ | refine blk_alloc ?_ _)); exact BK114.out) hb); have n1_:=Aside0.mk (below_step (by repeat (first | (with_reducible first | exact HB.out | apply below_alloc | apply pw_below_drewN | apply below_drew1 | refine below_set ?_ GE114.out) | exact HB.out)) hb); clear BK114; clear HB; have BK114:=n0_; have HB:=n1_; clear n0_ n1_; (try clear hb); (try clear hb2); (try clear hk); (try clear hi)))
   (try simp only [Act.put,List.setIfInBounds_toArray,List.set_cons_zero,List.set_cons_succ])
   go_cut [17] (fun v17 wc => ∃ (kq : Nat) (x17_7 : Bool),v17 = .bool x17_7 ∧ Aside0 (prim_Right.j1 kq x17_7 a0_0 a0_1 a0_2 a0_3 a0_4 l0_5 l0_6 = some r) ∧ Aside0 (kq ≤ kj1) ∧ Aside0 (wc.heap[gb114]? = some (.cells #[.int .i64 a0_0,.string a0_1,.string a0_2,.string a0_3,.int .i64 a0_4,(.slice A0_5 l0_5.length c0_5),(.slice A0_6 l0_6.length c0_6)] 24 (0,0))) ∧ Aside0 (Below w.heap.size w wc))
   case first =>
    have H:=HC8.out
    clear HC8
    by_cases c11 : t115 = true
    ·subst c11
     have H1 : (if x3_1 = true then (prim_Right.j1 kj1 (a0_0 != 7) a0_0 a0_1 a0_2 a0_3 a0_4 l0_5 l0_6) else (prim_Right.j1 kj1 false a0_0 a0_1 a0_2 a0_3 a0_4 l0_5 l0_6)) = some r:=by rw [if_pos rfl] at H; exact H
     clear H
     have H:=H1
     clear H1
     by_cases c12 : x3_1 = true
     ·subst c12
      have H1 : (prim_Right.j1 kj1 (a0_0 != 7) a0_0 a0_1 a0_2 a0_3 a0_4 l0_5 l0_6) = some r:=by rw [if_pos rfl] at H; exact H
      clear H
      have H:=H1
      clear H1
      have H':=Aside0.mk H
      clear H
      have hcz13_0 : w10.cell? ⟨gb114,0,none⟩ = some (.int .i64 a0_0):=(blk_cell BK114.out 0).trans rfl
      have hcz13_1 : w10.cell? ⟨gb114,1,none⟩ = some (.string a0_1):=(blk_cell BK114.out 1).trans rfl
      have hcz13_2 : w10.cell? ⟨gb114,2,none⟩ = some (.string a0_2):=(blk_cell BK114.out 2).trans rfl
      have hcz13_3 : w10.cell? ⟨gb114,3,none⟩ = some (.string a0_3):=(blk_cell BK114.out 3).trans rfl
      have hcz13_4 : w10.cell? ⟨gb114,4,none⟩ = some (.int .i64 a0_4):=(blk_cell BK114.out 4).trans rfl
      have hcz13_5 : w10.cell? ⟨gb114,5,none⟩ = some (.slice A0_5 l0_5.length c0_5):=(blk_cell BK114.out 5).trans rfl
      have hcz13_6 : w10.cell? ⟨gb114,6,none⟩ = some (.slice A0_6 l0_6.length c0_6):=(blk_cell BK114.out 6).trans rfl
      have hfz13_0:=blk_frozen BK114.out 0
      have hfz13_1:=blk_frozen BK114.out 1
      have hfz13_2:=blk_frozen BK114.out 2
      have hfz13_3:=blk_frozen BK114.out 3
      have hfz13_4:=blk_frozen BK114.out 4
      have hfz13_5:=blk_frozen BK114.out 5
      have hfz13_6:=blk_frozen BK114.out 6
      go_wp2
      go_meet
      case rel => exact ⟨_,((a0_0 != 7)),(by first | rfl | (simp; done) | (simp [*]; done)),H',⟨by have:=HJ1.out; first | omega | exact Nat.le_refl _⟩,⟨by (with_reducible repeat (first | refine blk_drewN ?_ _ | refine blk_drew ?_ | refine blk_alloc ?_ _)); exact BK114.out⟩,⟨by repeat (first | (with_reducible first | exact HB.out | apply below_alloc | apply pw_below_drewN | apply below_drew1 | refine below_set ?_ GE114.out) | exact HB.out)⟩⟩
     ·replace c12:=Bool.eq_false_iff.mpr c12
      subst c12
      have H1 : (prim_Right.j1 kj1 false a0_0 a0_1 a0_2 a0_3 a0_4 l0_5 l0_6) = some r:=by rw [if_neg (show ¬ (false = true) by decide)] at H; exact H
      clear H
      have H:=H1
      clear H1
      have H':=Aside0.mk H
      clear H
      go_wp2
      go_meet
      case rel => exact ⟨_,(false),(by first | rfl | (simp; done) | (simp [*]; done)),H',⟨by have:=HJ1.out; first | omega | exact Nat.le_refl _⟩,⟨by (with_reducible repeat (first | refine blk_drewN ?_ _ | refine blk_drew ?_ | refine blk_alloc ?_ _)); exact BK114.out⟩,⟨by repeat (first | (with_reducible first | exact HB.out | apply below_alloc | apply pw_below_drewN | apply below_drew1 | refine below_set ?_ GE114.out) | exact HB.out)⟩⟩
    ·replace c11:=Bool.eq_false_iff.mpr c11
     subst c11
     have H1 : (prim_Right.j1 kj1 (!false) a0_0 a0_1 a0_2 a0_3 a0_4 l0_5 l0_6) = some r:=by rw [if_neg (show ¬ (false = true) by decide)] at H; exact H
     clear H
     have H:=H1
     clear H1
     have H':=Aside0.mk H
     clear H
     go_wp2
     go_meet
     case rel => exact ⟨_,(!false),(by first | rfl | (simp; done) | (simp [*]; done)),H',⟨by have:=HJ1.out; first | omega | exact Nat.le_refl _⟩,⟨by (with_reducible repeat (first | refine blk_drewN ?_ _ | refine blk_drew ?_ | refine blk_alloc ?_ _)); exact BK114.out⟩,⟨by repeat (first | (with_reducible first | exact HB.out | apply below_alloc | apply pw_below_drewN | apply below_drew1 | refine below_set ?_ GE114.out) | exact HB.out)⟩⟩
   case rest =>
    clear HC8
    try clear c1
    try clear p2
    try clear c4
    try clear c4b0
    try clear p6
    try clear c11
    try clear c12
    try clear hcz13_0
    try clear hcz13_1
    try clear hcz13_2
    try clear hcz13_3
    try clear hcz13_4
    try clear hcz13_5
    try clear hcz13_6
    try clear hcz5_0
    try clear hcz5_1
    try clear hcz5_2
    try clear hcz5_3
    try clear hcz5_4
    try clear hcz5_5
    try clear hcz5_6
    try clear hcz6_0
    try clear hcz6_1
    try clear hcz6_2
    try clear hcz6_3
    try clear hcz6_4
    try clear hcz6_5
    try clear hcz6_6
    try clear hcz9_0
    try clear hcz9_1
    try clear hcz9_2
    try clear hcz9_3
    try clear hcz9_4
    try clear hcz9_5
    try clear hcz9_6
    try clear hfz13_0
    try clear hfz13_1
    try clear hfz13_2
    try clear hfz13_3
    try clear hfz13_4
    try clear hfz13_5
    try clear hfz13_6
    try clear hfz5_0
    try clear hfz5_1
    try clear hfz5_2
    try clear hfz5_3
    try clear hfz5_4
    try clear hfz5_5
    try clear hfz5_6
    try clear hfz6_0
    try clear hfz6_1
    try clear hfz6_2
    try clear hfz6_3
    try clear hfz6_4
    try clear hfz6_5
    try clear hfz6_6
    try clear hfz9_0
    try clear hfz9_1
    try clear hfz9_2
    try clear hfz9_3
    try clear hfz9_4
    try clear hfz9_5
    try clear hfz9_6
    try clear p2
    try clear p6
    obtain ⟨kq,x17_7,rfl,HA,HJ7,BK114,HB⟩:=hcut
    cases kq with
    | zero => exact absurd HA.out (by simp [prim_Right.j1])
    | succ kj7 =>
     have H:=HA.out
     clear HA
     simp only [prim_Right.j1] at H
     by_cases c14 : x17_7 = true
     ·subst c14
      have H1 : (some false) = some r:=by rw [if_pos rfl] at H; exact H
      clear H
      have H:=H1
      clear H1
      obtain rfl:=Option.some.inj H
      go_wp2
      go_ret
      exact ⟨by first | rfl | (simp [errW_none,errW_some] <;> rfl) | (simp [*,errW_none,errW_some] <;> rfl),by repeat (first | (with_reducible first | exact HB.out | apply below_alloc | apply pw_below_drewN | apply below_drew1 | refine below_set ?_ GE114.out) | exact HB.out)⟩
     ·replace c14:=Bool.eq_false_iff.mpr c14
      subst c14
      have H1 : (if a0_0 = 8 then ((lines_Token.f kj7 a0_3).bind fun t116 => (if t116 = true then ((lines_Token.f kj7 a0_2).bind fun t117 => (if t117 = true then (some (a0_3.toList != a0_2.toList)) else (some false))) else (some false))) else (if a0_0 = 9 then (some (a0_3.toList != a0_2.toList)) else (if a0_3.toList = ([] : List UInt8) then (if a0_0 = 10 then ((path_Right.f a0_2).bind fun t118 => (if t118 = true then ((path_Apart.f a0_1 a0_2).bind fun t119 => (some t119)) else (some false))) else (if a0_0 = 7 then (if a0_2.toList = ([] : List UInt8) then (if a0_4 ≥ 0 then (if a0_4 ≤ 1073741824 then ((lines_Right.f l0_5).bind fun t120 => (if t120 = true then ((lines_Right.f l0_6).bind fun t121 => (if t121 = true then (some (decide ((wrap64 ((l0_5.length : Int) + (l0_6.length : Int))) > 0))) else (some false))) else (some false))) else (some false)) else (some false)) else (some false)) else (if a0_2.toList = ([] : List UInt8) then (if a0_0 ≥ 1 then (some (decide (a0_0 ≤ 6))) else (some false)) else (some false)))) else (some false)))) = some r:=by rw [if_neg (show ¬ (false = true) by decide)] at H; exact H
      clear H
      have H:=H1
      clear H1
      by_cases c15 : a0_0 = 8
      ·rw [if_pos c15] at H
       have c15b0 : (a0_0 == 8) = true:=beq_iff_eq.mpr c15
       have c15b1 : (a0_0 != 8) = false:=bne_eq_false_iff_eq.mpr c15
       clear c15
       replace H:=Option.bind_eq_some_iff.mp H
       obtain ⟨t116,A160,H⟩:=H
       replace H : (if t116 = true then ((lines_Token.f kj7 a0_2).bind fun t117 => (if t117 = true then (some (a0_3.toList != a0_2.toList)) else (some false))) else (some false)) = some r:=H
       have A16:=Aside0.mk A160
       clear A160
       by_cases c17 : t116 = true
       ·subst c17
        have H1 : ((lines_Token.f kj7 a0_2).bind fun t117 => (if t117 = true then (some (a0_3.toList != a0_2.toList)) else (some false))) = some r:=by rw [if_pos rfl] at H; exact H
        clear H
        have H:=H1
        clear H1
        replace H:=Option.bind_eq_some_iff.mp H
        obtain ⟨t117,A180,H⟩:=H
        replace H : (if t117 = true then (some (a0_3.toList != a0_2.toList)) else (some false)) = some r:=H
        have A18:=Aside0.mk A180
        clear A180
        by_cases c19 : t117 = true
        ·subst c19
         have H1 : (some (a0_3.toList != a0_2.toList)) = some r:=by rw [if_pos rfl] at H; exact H
         clear H
         have H:=H1
         clear H1
         obtain rfl:=Option.some.inj H
         have hcz20_0 : wc.cell? ⟨gb114,0,none⟩ = some (.int .i64 a0_0):=(blk_cell BK114.out 0).trans rfl
         have hcz20_1 : wc.cell? ⟨gb114,1,none⟩ = some (.string a0_1):=(blk_cell BK114.out 1).trans rfl
         have hcz20_2 : wc.cell? ⟨gb114,2,none⟩ = some (.string a0_2):=(blk_cell BK114.out 2).trans rfl
         have hcz20_3 : wc.cell? ⟨gb114,3,none⟩ = some (.string a0_3):=(blk_cell BK114.out 3).trans rfl
         have hcz20_4 : wc.cell? ⟨gb114,4,none⟩ = some (.int .i64 a0_4):=(blk_cell BK114.out 4).trans rfl
         have hcz20_5 : wc.cell? ⟨gb114,5,none⟩ = some (.slice A0_5 l0_5.length c0_5):=(blk_cell BK114.out 5).trans rfl
         have hcz20_6 : wc.cell? ⟨gb114,6,none⟩ = some (.slice A0_6 l0_6.length c0_6):=(blk_cell BK114.out 6).trans rfl
         have hfz20_0:=blk_frozen BK114.out 0
         have hfz20_1:=blk_frozen BK114.out 1
         have hfz20_2:=blk_frozen BK114.out 2
         have hfz20_3:=blk_frozen BK114.out 3
         have hfz20_4:=blk_frozen BK114.out 4
         have hfz20_5:=blk_frozen BK114.out 5
         have hfz20_6:=blk_frozen BK114.out 6
         go_wp2_with (first | ((with_reducible refine gate_callee (f:=47) rfl ?_); refine goesL_ (some 34) rfl rfl Tryd.func47 (by kernel_rfl) rfl #[.string a0_3] rfl (by (try simp only [List.map_toArray,List.map_cons,List.map_nil]); first | done | rfl | (simp only [List.length_drop,List.length_take]; rfl)) ?_; (with_reducible refine (lines_Token.calls kj7 a0_3 true _ A16.out).mono ?_); rintro e w' ⟨rfl,⟨nd,rfl⟩⟩; refine ⟨_,rfl,?_⟩) | (go_at_call 47; (with_reducible refine (lines_Token.calls kj7 a0_2 true _ A18.out).mono ?_); rintro e w' ⟨rfl,⟨nd,rfl⟩⟩))
         go_ret
         exact ⟨by first | rfl | (simp [errW_none,errW_some] <;> rfl) | (simp [*,errW_none,errW_some] <;> rfl),by repeat (first | (with_reducible first | exact HB.out | apply below_alloc | apply pw_below_drewN | apply below_drew1 | refine below_set ?_ GE114.out) | exact HB.out)⟩
        ·replace c19:=Bool.eq_false_iff.mpr c19
         subst c19
         have H1 : (some false) = some r:=by rw [if_neg (show ¬ (false = true) by decide)] at H; exact H
         clear H
         have H:=H1
         clear H1
         obtain rfl:=Option.some.inj H
         have hcz21_0 : wc.cell? ⟨gb114,0,none⟩ = some (.int .i64 a0_0):=(blk_cell BK114.out 0).trans rfl
         have hcz21_1 : wc.cell? ⟨gb114,1,none⟩ = some (.string a0_1):=(blk_cell BK114.out 1).trans rfl
         have hcz21_2 : wc.cell? ⟨gb114,2,none⟩ = some (.string a0_2):=(blk_cell BK114.out 2).trans rfl
         have hcz21_3 : wc.cell? ⟨gb114,3,none⟩ = some (.string a0_3):=(blk_cell BK114.out 3).trans rfl
         have hcz21_4 : wc.cell? ⟨gb114,4,none⟩ = some (.int .i64 a0_4):=(blk_cell BK114.out 4).trans rfl
         have hcz21_5 : wc.cell? ⟨gb114,5,none⟩ = some (.slice A0_5 l0_5.length c0_5):=(blk_cell BK114.out 5).trans rfl
         have hcz21_6 : wc.cell? ⟨gb114,6,none⟩ = some (.slice A0_6 l0_6.length c0_6):=(blk_cell BK114.out 6).trans rfl
         have hfz21_0:=blk_frozen BK114.out 0
         have hfz21_1:=blk_frozen BK114.out 1
         have hfz21_2:=blk_frozen BK114.out 2
         have hfz21_3:=blk_frozen BK114.out 3
         have hfz21_4:=blk_frozen BK114.out 4
         have hfz21_5:=blk_frozen BK114.out 5
         have hfz21_6:=blk_frozen BK114.out 6
         go_wp2_with (first | ((with_reducible refine gate_callee (f:=47) rfl ?_); refine goesL_ (some 34) rfl rfl Tryd.func47 (by kernel_rfl) rfl #[.string a0_3] rfl (by (try simp only [List.map_toArray,List.map_cons,List.map_nil]); first | done | rfl | (simp only [List.length_drop,List.length_take]; rfl)) ?_; (with_reducible refine (lines_Token.calls kj7 a0_3 true _ A16.out).mono ?_); rintro e w' ⟨rfl,⟨nd,rfl⟩⟩; refine ⟨_,rfl,?_⟩) | (go_at_call 47; (with_reducible refine (lines_Token.calls kj7 a0_2 false _ A18.out).mono ?_); rintro e w' ⟨rfl,⟨nd,rfl⟩⟩))
         go_ret
         exact ⟨by first | rfl | (simp [errW_none,errW_some] <;> rfl) | (simp [*,errW_none,errW_some] <;> rfl),by repeat (first | (with_reducible first | exact HB.out | apply below_alloc | apply pw_below_drewN | apply below_drew1 | refine below_set ?_ GE114.out) | exact HB.out)⟩
       ·replace c17:=Bool.eq_false_iff.mpr c17
        subst c17
        have H1 : (some false) = some r:=by rw [if_neg (show ¬ (false = true) by decide)] at H; exact H
        clear H
        have H:=H1
        clear H1
        obtain rfl:=Option.some.inj H
        have hcz22_0 : wc.cell? ⟨gb114,0,none⟩ = some (.int .i64 a0_0):=(blk_cell BK114.out 0).trans rfl
        have hcz22_1 : wc.cell? ⟨gb114,1,none⟩ = some (.string a0_1):=(blk_cell BK114.out 1).trans rfl
        have hcz22_2 : wc.cell? ⟨gb114,2,none⟩ = some (.string a0_2):=(blk_cell BK114.out 2).trans rfl
        have hcz22_3 : wc.cell? ⟨gb114,3,none⟩ = some (.string a0_3):=(blk_cell BK114.out 3).trans rfl
        have hcz22_4 : wc.cell? ⟨gb114,4,none⟩ = some (.int .i64 a0_4):=(blk_cell BK114.out 4).trans rfl
        have hcz22_5 : wc.cell? ⟨gb114,5,none⟩ = some (.slice A0_5 l0_5.length c0_5):=(blk_cell BK114.out 5).trans rfl
        have hcz22_6 : wc.cell? ⟨gb114,6,none⟩ = some (.slice A0_6 l0_6.length c0_6):=(blk_cell BK114.out 6).trans rfl
        have hfz22_0:=blk_frozen BK114.out 0
        have hfz22_1:=blk_frozen BK114.out 1
        have hfz22_2:=blk_frozen BK114.out 2
        have hfz22_3:=blk_frozen BK114.out 3
        have hfz22_4:=blk_frozen BK114.out 4
        have hfz22_5:=blk_frozen BK114.out 5
        have hfz22_6:=blk_frozen BK114.out 6
        go_wp2_with (first | ((with_reducible refine gate_callee (f:=47) rfl ?_); refine goesL_ (some 34) rfl rfl Tryd.func47 (by kernel_rfl) rfl #[.string a0_3] rfl (by (try simp only [List.map_toArray,List.map_cons,List.map_nil]); first | done | rfl | (simp only [List.length_drop,List.length_take]; rfl)) ?_; (with_reducible refine (lines_Token.calls kj7 a0_3 false _ A16.out).mono ?_); rintro e w' ⟨rfl,⟨nd,rfl⟩⟩; refine ⟨_,rfl,?_⟩))
        go_ret
        exact ⟨by first | rfl | (simp [errW_none,errW_some] <;> rfl) | (simp [*,errW_none,errW_some] <;> rfl),by repeat (first | (with_reducible first | exact HB.out | apply below_alloc | apply pw_below_drewN | apply below_drew1 | refine below_set ?_ GE114.out) | exact HB.out)⟩
      ·rw [if_neg c15] at H
       have c15b0 : (a0_0 == 8) = false:=beq_eq_false_iff_ne.mpr c15
       have c15b1 : (a0_0 != 8) = true:=bne_iff_ne.mpr c15
       by_cases c23 : a0_0 = 9
       ·rw [if_pos c23] at H
        have c23b0 : (a0_0 == 9) = true:=beq_iff_eq.mpr c23
        have c23b1 : (a0_0 != 9) = false:=bne_eq_false_iff_eq.mpr c23
        clear c23
        obtain rfl:=Option.some.inj H
        have hcz24_0 : wc.cell? ⟨gb114,0,none⟩ = some (.int .i64 a0_0):=(blk_cell BK114.out 0).trans rfl
        have hcz24_1 : wc.cell? ⟨gb114,1,none⟩ = some (.string a0_1):=(blk_cell BK114.out 1).trans rfl
        have hcz24_2 : wc.cell? ⟨gb114,2,none⟩ = some (.string a0_2):=(blk_cell BK114.out 2).trans rfl
        have hcz24_3 : wc.cell? ⟨gb114,3,none⟩ = some (.string a0_3):=(blk_cell BK114.out 3).trans rfl
        have hcz24_4 : wc.cell? ⟨gb114,4,none⟩ = some (.int .i64 a0_4):=(blk_cell BK114.out 4).trans rfl
        have hcz24_5 : wc.cell? ⟨gb114,5,none⟩ = some (.slice A0_5 l0_5.length c0_5):=(blk_cell BK114.out 5).trans rfl
        have hcz24_6 : wc.cell? ⟨gb114,6,none⟩ = some (.slice A0_6 l0_6.length c0_6):=(blk_cell BK114.out 6).trans rfl
        have hfz24_0:=blk_frozen BK114.out 0
        have hfz24_1:=blk_frozen BK114.out 1
        have hfz24_2:=blk_frozen BK114.out 2
        have hfz24_3:=blk_frozen BK114.out 3
        have hfz24_4:=blk_frozen BK114.out 4
        have hfz24_5:=blk_frozen BK114.out 5
        have hfz24_6:=blk_frozen BK114.out 6
        go_wp2
        go_ret
        exact ⟨by first | rfl | (simp [errW_none,errW_some] <;> rfl) | (simp [*,errW_none,errW_some] <;> rfl),by repeat (first | (with_reducible first | exact HB.out | apply below_alloc | apply pw_below_drewN | apply below_drew1 | refine below_set ?_ GE114.out) | exact HB.out)⟩
       ·rw [if_neg c23] at H
        have c23b0 : (a0_0 == 9) = false:=beq_eq_false_iff_ne.mpr c23
        have c23b1 : (a0_0 != 9) = true:=bne_iff_ne.mpr c23
        by_cases c25 : a0_3.toList = ([] : List UInt8)
        ·rw [if_pos c25] at H
         have c25b0 : (a0_3.toList == ([] : List UInt8)) = true:=beq_iff_eq.mpr c25
         have c25b1 : (a0_3.toList != ([] : List UInt8)) = false:=bne_eq_false_iff_eq.mpr c25
         clear c25
         by_cases c26 : a0_0 = 10
         ·rw [if_pos c26] at H
          have c26b0 : (a0_0 == 10) = true:=beq_iff_eq.mpr c26
          have c26b1 : (a0_0 != 10) = false:=bne_eq_false_iff_eq.mpr c26
          clear c26
          replace H:=Option.bind_eq_some_iff.mp H
          obtain ⟨t118,A270,H⟩:=H
          replace H : (if t118 = true then ((path_Apart.f a0_1 a0_2).bind fun t119 => (some t119)) else (some false)) = some r:=H
          have A27:=Aside0.mk A270
          clear A270
          by_cases c28 : t118 = true
          ·subst c28
           have H1 : ((path_Apart.f a0_1 a0_2).bind fun t119 => (some t119)) = some r:=by rw [if_pos rfl] at H; exact H
           clear H
           have H:=H1
           clear H1
           replace H:=Option.bind_eq_some_iff.mp H
           obtain ⟨t119,A290,H⟩:=H
           replace H : (some t119) = some r:=H
           have A29:=Aside0.mk A290
           clear A290
           obtain rfl:=Option.some.inj H
           have hcz30_0 : wc.cell? ⟨gb114,0,none⟩ = some (.int .i64 a0_0):=(blk_cell BK114.out 0).trans rfl
           have hcz30_1 : wc.cell? ⟨gb114,1,none⟩ = some (.string a0_1):=(blk_cell BK114.out 1).trans rfl
           have hcz30_2 : wc.cell? ⟨gb114,2,none⟩ = some (.string a0_2):=(blk_cell BK114.out 2).trans rfl
           have hcz30_3 : wc.cell? ⟨gb114,3,none⟩ = some (.string a0_3):=(blk_cell BK114.out 3).trans rfl
           have hcz30_4 : wc.cell? ⟨gb114,4,none⟩ = some (.int .i64 a0_4):=(blk_cell BK114.out 4).trans rfl
           have hcz30_5 : wc.cell? ⟨gb114,5,none⟩ = some (.slice A0_5 l0_5.length c0_5):=(blk_cell BK114.out 5).trans rfl
           have hcz30_6 : wc.cell? ⟨gb114,6,none⟩ = some (.slice A0_6 l0_6.length c0_6):=(blk_cell BK114.out 6).trans rfl
           have hfz30_0:=blk_frozen BK114.out 0
           have hfz30_1:=blk_frozen BK114.out 1
           have hfz30_2:=blk_frozen BK114.out 2
           have hfz30_3:=blk_frozen BK114.out 3
           have hfz30_4:=blk_frozen BK114.out 4
           have hfz30_5:=blk_frozen BK114.out 5
           have hfz30_6:=blk_frozen BK114.out 6
           go_wp2_with (first | ((with_reducible refine gate_callee (f:=46) rfl ?_); refine goesL_ (some 66) rfl rfl Tryd.func46 (by kernel_rfl) rfl #[.string a0_2] rfl (by (try simp only [List.map_toArray,List.map_cons,List.map_nil]); first | done | rfl | (simp only [List.length_drop,List.length_take]; rfl)) ?_; (with_reducible refine (path_Right.calls a0_2 true _ A27.out).mono ?_); rintro e w31 ⟨rfl,hb⟩; refine ⟨_,rfl,?_⟩; have n0_:=Aside0.mk (blk_below (g:=gb114) (o:=.cells #[.int .i64 a0_0,.string a0_1,.string a0_2,.string a0_3,.int .i64 a0_4,.slice A0_5 l0_5.length c0_5,.slice A0_6 l0_6.length c0_6] 24 (0,0)) (by (with_reducible repeat (first | refine blk_drewN ?_ _ | refine blk_drew ?_ | refine blk_alloc ?_ _)); exact BK114.out) hb); have n1_:=Aside0.mk (below_step (by repeat (first | (with_reducible first | exact HB.out | apply below_alloc | apply pw_below_drewN | apply below_drew1 | refine below_set ?_ GE114.out) | exact HB.out)) hb); clear BK114; clear HB; have BK114:=n0_; have HB:=n1_; clear n0_ n1_; (try clear hb); (try clear hb2); (try clear hk); (try clear hi); have hcz32_0 : w31.cell? ⟨gb114,0,none⟩ = some (.int .i64 a0_0):=(blk_cell BK114.out 0).trans rfl; have hcz32_1 : w31.cell? ⟨gb114,1,none⟩ = some (.string a0_1):=(blk_cell BK114.out 1).trans rfl; have hcz32_2 : w31.cell? ⟨gb114,2,none⟩ = some (.string a0_2):=(blk_cell BK114.out 2).trans rfl; have hcz32_3 : w31.cell? ⟨gb114,3,none⟩ = some (.string a0_3):=(blk_cell BK114.out 3).trans rfl; have hcz32_4 : w31.cell? ⟨gb114,4,none⟩ = some (.int .i64 a0_4):=(blk_cell BK114.out 4).trans rfl; have hcz32_5 : w31.cell? ⟨gb114,5,none⟩ = some (.slice A0_5 l0_5.length c0_5):=(blk_cell BK114.out 5).trans rfl; have hcz32_6 : w31.cell? ⟨gb114,6,none⟩ = some (.slice A0_6 l0_6.length c0_6):=(blk_cell BK114.out 6).trans rfl; have hfz32_0:=blk_frozen BK114.out 0; have hfz32_1:=blk_frozen BK114.out 1; have hfz32_2:=blk_frozen BK114.out 2; have hfz32_3:=blk_frozen BK114.out 3; have hfz32_4:=blk_frozen BK114.out 4; have hfz32_5:=blk_frozen BK114.out 5; have hfz32_6:=blk_frozen BK114.out 6) | (go_at_call 48; (with_reducible refine (path_Apart.calls a0_1 a0_2 t119 _ A29.out).mono ?_); rintro e w' ⟨rfl,⟨nd,rfl⟩⟩))
           go_ret
           exact ⟨by first | rfl | (simp [errW_none,errW_some] <;> rfl) | (simp [*,errW_none,errW_some] <;> rfl),by repeat (first | (with_reducible first | exact HB.out | apply below_alloc | apply pw_below_drewN | apply below_drew1 | refine below_set ?_ GE114.out) | exact HB.out)⟩
          ·replace c28:=Bool.eq_false_iff.mpr c28
           subst c28
           have H1 : (some false) = some r:=by rw [if_neg (show ¬ (false = true) by decide)] at H; exact H
           clear H
           have H:=H1
           clear H1
           obtain rfl:=Option.some.inj H
           have hcz33_0 : wc.cell? ⟨gb114,0,none⟩ = some (.int .i64 a0_0):=(blk_cell BK114.out 0).trans rfl
           have hcz33_1 : wc.cell? ⟨gb114,1,none⟩ = some (.string a0_1):=(blk_cell BK114.out 1).trans rfl
           have hcz33_2 : wc.cell? ⟨gb114,2,none⟩ = some (.string a0_2):=(blk_cell BK114.out 2).trans rfl
           have hcz33_3 : wc.cell? ⟨gb114,3,none⟩ = some (.string a0_3):=(blk_cell BK114.out 3).trans rfl
           have hcz33_4 : wc.cell? ⟨gb114,4,none⟩ = some (.int .i64 a0_4):=(blk_cell BK114.out 4).trans rfl
           have hcz33_5 : wc.cell? ⟨gb114,5,none⟩ = some (.slice A0_5 l0_5.length c0_5):=(blk_cell BK114.out 5).trans rfl
           have hcz33_6 : wc.cell? ⟨gb114,6,none⟩ = some (.slice A0_6 l0_6.length c0_6):=(blk_cell BK114.out 6).trans rfl
           have hfz33_0:=blk_frozen BK114.out 0
           have hfz33_1:=blk_frozen BK114.out 1
           have hfz33_2:=blk_frozen BK114.out 2
           have hfz33_3:=blk_frozen BK114.out 3
           have hfz33_4:=blk_frozen BK114.out 4
           have hfz33_5:=blk_frozen BK114.out 5
           have hfz33_6:=blk_frozen BK114.out 6
           go_wp2_with (first | ((with_reducible refine gate_callee (f:=46) rfl ?_); refine goesL_ (some 66) rfl rfl Tryd.func46 (by kernel_rfl) rfl #[.string a0_2] rfl (by (try simp only [List.map_toArray,List.map_cons,List.map_nil]); first | done | rfl | (simp only [List.length_drop,List.length_take]; rfl)) ?_; (with_reducible refine (path_Right.calls a0_2 false _ A27.out).mono ?_); rintro e w34 ⟨rfl,hb⟩; refine ⟨_,rfl,?_⟩; have n0_:=Aside0.mk (blk_below (g:=gb114) (o:=.cells #[.int .i64 a0_0,.string a0_1,.string a0_2,.string a0_3,.int .i64 a0_4,.slice A0_5 l0_5.length c0_5,.slice A0_6 l0_6.length c0_6] 24 (0,0)) (by (with_reducible repeat (first | refine blk_drewN ?_ _ | refine blk_drew ?_ | refine blk_alloc ?_ _)); exact BK114.out) hb); have n1_:=Aside0.mk (below_step (by repeat (first | (with_reducible first | exact HB.out | apply below_alloc | apply pw_below_drewN | apply below_drew1 | refine below_set ?_ GE114.out) | exact HB.out)) hb); clear BK114; clear HB; have BK114:=n0_; have HB:=n1_; clear n0_ n1_; (try clear hb); (try clear hb2); (try clear hk); (try clear hi)))
           go_ret
           exact ⟨by first | rfl | (simp [errW_none,errW_some] <;> rfl) | (simp [*,errW_none,errW_some] <;> rfl),by repeat (first | (with_reducible first | exact HB.out | apply below_alloc | apply pw_below_drewN | apply below_drew1 | refine below_set ?_ GE114.out) | exact HB.out)⟩
         ·rw [if_neg c26] at H
          have c26b0 : (a0_0 == 10) = false:=beq_eq_false_iff_ne.mpr c26
          have c26b1 : (a0_0 != 10) = true:=bne_iff_ne.mpr c26
          by_cases c35 : a0_0 = 7
          ·rw [if_pos c35] at H
           have c35b0 : (a0_0 == 7) = true:=beq_iff_eq.mpr c35
           have c35b1 : (a0_0 != 7) = false:=bne_eq_false_iff_eq.mpr c35
           clear c35
           by_cases c36 : a0_2.toList = ([] : List UInt8)
           ·rw [if_pos c36] at H
            have c36b0 : (a0_2.toList == ([] : List UInt8)) = true:=beq_iff_eq.mpr c36
            have c36b1 : (a0_2.toList != ([] : List UInt8)) = false:=bne_eq_false_iff_eq.mpr c36
            clear c36
            by_cases c37 : a0_4 ≥ 0
            ·rw [if_pos c37] at H
             have c37b0 : decide (0 ≤ a0_4) = true:=decide_eq_true c37
             clear c37
             by_cases c38 : a0_4 ≤ 1073741824
             ·rw [if_pos c38] at H
              have c38b0 : decide (a0_4 ≤ 1073741824) = true:=decide_eq_true c38
              clear c38
              replace H:=Option.bind_eq_some_iff.mp H
              obtain ⟨t120,A390,H⟩:=H
              replace H : (if t120 = true then ((lines_Right.f l0_6).bind fun t121 => (if t121 = true then (some (decide ((wrap64 ((l0_5.length : Int) + (l0_6.length : Int))) > 0))) else (some false))) else (some false)) = some r:=H
              have A39:=Aside0.mk A390
              clear A390
              by_cases c40 : t120 = true
              ·subst c40
               have H1 : ((lines_Right.f l0_6).bind fun t121 => (if t121 = true then (some (decide ((wrap64 ((l0_5.length : Int) + (l0_6.length : Int))) > 0))) else (some false))) = some r:=by rw [if_pos rfl] at H; exact H
               clear H
               have H:=H1
               clear H1
               replace H:=Option.bind_eq_some_iff.mp H
               obtain ⟨t121,A410,H⟩:=H
               replace H : (if t121 = true then (some (decide ((wrap64 ((l0_5.length : Int) + (l0_6.length : Int))) > 0))) else (some false)) = some r:=H
               have A41:=Aside0.mk A410
               clear A410
               by_cases c42 : t121 = true
               ·subst c42
                have H1 : (some (decide ((wrap64 ((l0_5.length : Int) + (l0_6.length : Int))) > 0))) = some r:=by rw [if_pos rfl] at H; exact H
                clear H
                have H:=H1
                clear H1
                obtain rfl:=Option.some.inj H
                have hcz43_0 : wc.cell? ⟨gb114,0,none⟩ = some (.int .i64 a0_0):=(blk_cell BK114.out 0).trans rfl
                have hcz43_1 : wc.cell? ⟨gb114,1,none⟩ = some (.string a0_1):=(blk_cell BK114.out 1).trans rfl
                have hcz43_2 : wc.cell? ⟨gb114,2,none⟩ = some (.string a0_2):=(blk_cell BK114.out 2).trans rfl
                have hcz43_3 : wc.cell? ⟨gb114,3,none⟩ = some (.string a0_3):=(blk_cell BK114.out 3).trans rfl
                have hcz43_4 : wc.cell? ⟨gb114,4,none⟩ = some (.int .i64 a0_4):=(blk_cell BK114.out 4).trans rfl
                have hcz43_5 : wc.cell? ⟨gb114,5,none⟩ = some (.slice A0_5 l0_5.length c0_5):=(blk_cell BK114.out 5).trans rfl
                have hcz43_6 : wc.cell? ⟨gb114,6,none⟩ = some (.slice A0_6 l0_6.length c0_6):=(blk_cell BK114.out 6).trans rfl
                have hfz43_0:=blk_frozen BK114.out 0
                have hfz43_1:=blk_frozen BK114.out 1
                have hfz43_2:=blk_frozen BK114.out 2
                have hfz43_3:=blk_frozen BK114.out 3
                have hfz43_4:=blk_frozen BK114.out 4
                have hfz43_5:=blk_frozen BK114.out 5
                have hfz43_6:=blk_frozen BK114.out 6
                go_wp2_with (first | (go_at_call 49; (with_reducible refine (lines_Right.calls _ _ l0_5 true _ ?side1 ?side2 A39.out).mono ?_); (case side1 => repeat (first | exact (Kd.C_below HR0_5.out HB.out) | (with_reducible refine Kd.C_alloc ?_ _) | (with_reducible refine Kd.C_drewN ?_ _) | (with_reducible refine Kd.C_drew ?_))); (case side2 => exact HC0_5.out); rintro e w' ⟨rfl,⟨nd,rfl⟩⟩) | (go_at_call 49; (with_reducible refine (lines_Right.calls _ _ l0_6 true _ ?side1 ?side2 A41.out).mono ?_); (case side1 => repeat (first | exact (Kd.C_below HR0_6.out (by repeat (first | (with_reducible first | exact HB.out | apply below_alloc | apply pw_below_drewN | apply below_drew1 | refine below_set ?_ GE114.out) | exact HB.out))) | (with_reducible refine Kd.C_alloc ?_ _) | (with_reducible refine Kd.C_drewN ?_ _) | (with_reducible refine Kd.C_drew ?_))); (case side2 => exact HC0_6.out); rintro e w' ⟨rfl,⟨nd,rfl⟩⟩))
                go_ret
                exact ⟨by first | rfl | (simp [errW_none,errW_some] <;> rfl) | (simp [*,errW_none,errW_some] <;> rfl),by repeat (first | (with_reducible first | exact HB.out | apply below_alloc | apply pw_below_drewN | apply below_drew1 | refine below_set ?_ GE114.out) | exact HB.out)⟩
               ·replace c42:=Bool.eq_false_iff.mpr c42
                subst c42
                have H1 : (some false) = some r:=by rw [if_neg (show ¬ (false = true) by decide)] at H; exact H
                clear H
                have H:=H1
                clear H1
                obtain rfl:=Option.some.inj H
                have hcz44_0 : wc.cell? ⟨gb114,0,none⟩ = some (.int .i64 a0_0):=(blk_cell BK114.out 0).trans rfl
                have hcz44_1 : wc.cell? ⟨gb114,1,none⟩ = some (.string a0_1):=(blk_cell BK114.out 1).trans rfl
                have hcz44_2 : wc.cell? ⟨gb114,2,none⟩ = some (.string a0_2):=(blk_cell BK114.out 2).trans rfl
                have hcz44_3 : wc.cell? ⟨gb114,3,none⟩ = some (.string a0_3):=(blk_cell BK114.out 3).trans rfl
                have hcz44_4 : wc.cell? ⟨gb114,4,none⟩ = some (.int .i64 a0_4):=(blk_cell BK114.out 4).trans rfl
                have hcz44_5 : wc.cell? ⟨gb114,5,none⟩ = some (.slice A0_5 l0_5.length c0_5):=(blk_cell BK114.out 5).trans rfl
                have hcz44_6 : wc.cell? ⟨gb114,6,none⟩ = some (.slice A0_6 l0_6.length c0_6):=(blk_cell BK114.out 6).trans rfl
                have hfz44_0:=blk_frozen BK114.out 0
                have hfz44_1:=blk_frozen BK114.out 1
                have hfz44_2:=blk_frozen BK114.out 2
                have hfz44_3:=blk_frozen BK114.out 3
                have hfz44_4:=blk_frozen BK114.out 4
                have hfz44_5:=blk_frozen BK114.out 5
                have hfz44_6:=blk_frozen BK114.out 6
                go_wp2_with (first | (go_at_call 49; (with_reducible refine (lines_Right.calls _ _ l0_5 true _ ?side1 ?side2 A39.out).mono ?_); (case side1 => repeat (first | exact (Kd.C_below HR0_5.out HB.out) | (with_reducible refine Kd.C_alloc ?_ _) | (with_reducible refine Kd.C_drewN ?_ _) | (with_reducible refine Kd.C_drew ?_))); (case side2 => exact HC0_5.out); rintro e w' ⟨rfl,⟨nd,rfl⟩⟩) | (go_at_call 49; (with_reducible refine (lines_Right.calls _ _ l0_6 false _ ?side1 ?side2 A41.out).mono ?_); (case side1 => repeat (first | exact (Kd.C_below HR0_6.out (by repeat (first | (with_reducible first | exact HB.out | apply below_alloc | apply pw_below_drewN | apply below_drew1 | refine below_set ?_ GE114.out) | exact HB.out))) | (with_reducible refine Kd.C_alloc ?_ _) | (with_reducible refine Kd.C_drewN ?_ _) | (with_reducible refine Kd.C_drew ?_))); (case side2 => exact HC0_6.out); rintro e w' ⟨rfl,⟨nd,rfl⟩⟩))
                go_ret
                exact ⟨by first | rfl | (simp [errW_none,errW_some] <;> rfl) | (simp [*,errW_none,errW_some] <;> rfl),by repeat (first | (with_reducible first | exact HB.out | apply below_alloc | apply pw_below_drewN | apply below_drew1 | refine below_set ?_ GE114.out) | exact HB.out)⟩
              ·replace c40:=Bool.eq_false_iff.mpr c40
               subst c40
               have H1 : (some false) = some r:=by rw [if_neg (show ¬ (false = true) by decide)] at H; exact H
               clear H
               have H:=H1
               clear H1
               obtain rfl:=Option.some.inj H
               have hcz45_0 : wc.cell? ⟨gb114,0,none⟩ = some (.int .i64 a0_0):=(blk_cell BK114.out 0).trans rfl
               have hcz45_1 : wc.cell? ⟨gb114,1,none⟩ = some (.string a0_1):=(blk_cell BK114.out 1).trans rfl
               have hcz45_2 : wc.cell? ⟨gb114,2,none⟩ = some (.string a0_2):=(blk_cell BK114.out 2).trans rfl
               have hcz45_3 : wc.cell? ⟨gb114,3,none⟩ = some (.string a0_3):=(blk_cell BK114.out 3).trans rfl
               have hcz45_4 : wc.cell? ⟨gb114,4,none⟩ = some (.int .i64 a0_4):=(blk_cell BK114.out 4).trans rfl
               have hcz45_5 : wc.cell? ⟨gb114,5,none⟩ = some (.slice A0_5 l0_5.length c0_5):=(blk_cell BK114.out 5).trans rfl
               have hcz45_6 : wc.cell? ⟨gb114,6,none⟩ = some (.slice A0_6 l0_6.length c0_6):=(blk_cell BK114.out 6).trans rfl
               have hfz45_0:=blk_frozen BK114.out 0
               have hfz45_1:=blk_frozen BK114.out 1
               have hfz45_2:=blk_frozen BK114.out 2
               have hfz45_3:=blk_frozen BK114.out 3
               have hfz45_4:=blk_frozen BK114.out 4
               have hfz45_5:=blk_frozen BK114.out 5
               have hfz45_6:=blk_frozen BK114.out 6
               go_wp2_with (first | (go_at_call 49; (with_reducible refine (lines_Right.calls _ _ l0_5 false _ ?side1 ?side2 A39.out).mono ?_); (case side1 => repeat (first | exact (Kd.C_below HR0_5.out HB.out) | (with_reducible refine Kd.C_alloc ?_ _) | (with_reducible refine Kd.C_drewN ?_ _) | (with_reducible refine Kd.C_drew ?_))); (case side2 => exact HC0_5.out); rintro e w' ⟨rfl,⟨nd,rfl⟩⟩))
               go_ret
               exact ⟨by first | rfl | (simp [errW_none,errW_some] <;> rfl) | (simp [*,errW_none,errW_some] <;> rfl),by repeat (first | (with_reducible first | exact HB.out | apply below_alloc | apply pw_below_drewN | apply below_drew1 | refine below_set ?_ GE114.out) | exact HB.out)⟩
             ·rw [if_neg c38] at H
              have c38b0 : decide (a0_4 ≤ 1073741824) = false:=decide_eq_false c38
              clear c38
              obtain rfl:=Option.some.inj H
              have hcz46_0 : wc.cell? ⟨gb114,0,none⟩ = some (.int .i64 a0_0):=(blk_cell BK114.out 0).trans rfl
              have hcz46_1 : wc.cell? ⟨gb114,1,none⟩ = some (.string a0_1):=(blk_cell BK114.out 1).trans rfl
              have hcz46_2 : wc.cell? ⟨gb114,2,none⟩ = some (.string a0_2):=(blk_cell BK114.out 2).trans rfl
              have hcz46_3 : wc.cell? ⟨gb114,3,none⟩ = some (.string a0_3):=(blk_cell BK114.out 3).trans rfl
              have hcz46_4 : wc.cell? ⟨gb114,4,none⟩ = some (.int .i64 a0_4):=(blk_cell BK114.out 4).trans rfl
              have hcz46_5 : wc.cell? ⟨gb114,5,none⟩ = some (.slice A0_5 l0_5.length c0_5):=(blk_cell BK114.out 5).trans rfl
              have hcz46_6 : wc.cell? ⟨gb114,6,none⟩ = some (.slice A0_6 l0_6.length c0_6):=(blk_cell BK114.out 6).trans rfl
              have hfz46_0:=blk_frozen BK114.out 0
              have hfz46_1:=blk_frozen BK114.out 1
              have hfz46_2:=blk_frozen BK114.out 2
              have hfz46_3:=blk_frozen BK114.out 3
              have hfz46_4:=blk_frozen BK114.out 4
              have hfz46_5:=blk_frozen BK114.out 5
              have hfz46_6:=blk_frozen BK114.out 6
              go_wp2
              go_ret
              exact ⟨by first | rfl | (simp [errW_none,errW_some] <;> rfl) | (simp [*,errW_none,errW_some] <;> rfl),by repeat (first | (with_reducible first | exact HB.out | apply below_alloc | apply pw_below_drewN | apply below_drew1 | refine below_set ?_ GE114.out) | exact HB.out)⟩
            ·rw [if_neg c37] at H
             have c37b0 : decide (0 ≤ a0_4) = false:=decide_eq_false c37
             clear c37
             obtain rfl:=Option.some.inj H
             have hcz47_0 : wc.cell? ⟨gb114,0,none⟩ = some (.int .i64 a0_0):=(blk_cell BK114.out 0).trans rfl
             have hcz47_1 : wc.cell? ⟨gb114,1,none⟩ = some (.string a0_1):=(blk_cell BK114.out 1).trans rfl
             have hcz47_2 : wc.cell? ⟨gb114,2,none⟩ = some (.string a0_2):=(blk_cell BK114.out 2).trans rfl
             have hcz47_3 : wc.cell? ⟨gb114,3,none⟩ = some (.string a0_3):=(blk_cell BK114.out 3).trans rfl
             have hcz47_4 : wc.cell? ⟨gb114,4,none⟩ = some (.int .i64 a0_4):=(blk_cell BK114.out 4).trans rfl
             have hcz47_5 : wc.cell? ⟨gb114,5,none⟩ = some (.slice A0_5 l0_5.length c0_5):=(blk_cell BK114.out 5).trans rfl
             have hcz47_6 : wc.cell? ⟨gb114,6,none⟩ = some (.slice A0_6 l0_6.length c0_6):=(blk_cell BK114.out 6).trans rfl
             have hfz47_0:=blk_frozen BK114.out 0
             have hfz47_1:=blk_frozen BK114.out 1
             have hfz47_2:=blk_frozen BK114.out 2
             have hfz47_3:=blk_frozen BK114.out 3
             have hfz47_4:=blk_frozen BK114.out 4
             have hfz47_5:=blk_frozen BK114.out 5
             have hfz47_6:=blk_frozen BK114.out 6
             go_wp2
             go_ret
             exact ⟨by first | rfl | (simp [errW_none,errW_some] <;> rfl) | (simp [*,errW_none,errW_some] <;> rfl),by repeat (first | (with_reducible first | exact HB.out | apply below_alloc | apply pw_below_drewN | apply below_drew1 | refine below_set ?_ GE114.out) | exact HB.out)⟩
           ·rw [if_neg c36] at H
            have c36b0 : (a0_2.toList == ([] : List UInt8)) = false:=beq_eq_false_iff_ne.mpr c36
            have c36b1 : (a0_2.toList != ([] : List UInt8)) = true:=bne_iff_ne.mpr c36
            obtain rfl:=Option.some.inj H
            have hcz48_0 : wc.cell? ⟨gb114,0,none⟩ = some (.int .i64 a0_0):=(blk_cell BK114.out 0).trans rfl
            have hcz48_1 : wc.cell? ⟨gb114,1,none⟩ = some (.string a0_1):=(blk_cell BK114.out 1).trans rfl
            have hcz48_2 : wc.cell? ⟨gb114,2,none⟩ = some (.string a0_2):=(blk_cell BK114.out 2).trans rfl
            have hcz48_3 : wc.cell? ⟨gb114,3,none⟩ = some (.string a0_3):=(blk_cell BK114.out 3).trans rfl
            have hcz48_4 : wc.cell? ⟨gb114,4,none⟩ = some (.int .i64 a0_4):=(blk_cell BK114.out 4).trans rfl
            have hcz48_5 : wc.cell? ⟨gb114,5,none⟩ = some (.slice A0_5 l0_5.length c0_5):=(blk_cell BK114.out 5).trans rfl
            have hcz48_6 : wc.cell? ⟨gb114,6,none⟩ = some (.slice A0_6 l0_6.length c0_6):=(blk_cell BK114.out 6).trans rfl
            have hfz48_0:=blk_frozen BK114.out 0
            have hfz48_1:=blk_frozen BK114.out 1
            have hfz48_2:=blk_frozen BK114.out 2
            have hfz48_3:=blk_frozen BK114.out 3
            have hfz48_4:=blk_frozen BK114.out 4
            have hfz48_5:=blk_frozen BK114.out 5
            have hfz48_6:=blk_frozen BK114.out 6
            go_wp2
            go_ret
            exact ⟨by first | rfl | (simp [errW_none,errW_some] <;> rfl) | (simp [*,errW_none,errW_some] <;> rfl),by repeat (first | (with_reducible first | exact HB.out | apply below_alloc | apply pw_below_drewN | apply below_drew1 | refine below_set ?_ GE114.out) | exact HB.out)⟩
          ·rw [if_neg c35] at H
           have c35b0 : (a0_0 == 7) = false:=beq_eq_false_iff_ne.mpr c35
           have c35b1 : (a0_0 != 7) = true:=bne_iff_ne.mpr c35
           by_cases c49 : a0_2.toList = ([] : List UInt8)
           ·rw [if_pos c49] at H
            have c49b0 : (a0_2.toList == ([] : List UInt8)) = true:=beq_iff_eq.mpr c49
            have c49b1 : (a0_2.toList != ([] : List UInt8)) = false:=bne_eq_false_iff_eq.mpr c49
            clear c49
            by_cases c50 : a0_0 ≥ 1
            ·rw [if_pos c50] at H
             have c50b0 : decide (1 ≤ a0_0) = true:=decide_eq_true c50
             clear c50
             obtain rfl:=Option.some.inj H
             have hcz51_0 : wc.cell? ⟨gb114,0,none⟩ = some (.int .i64 a0_0):=(blk_cell BK114.out 0).trans rfl
             have hcz51_1 : wc.cell? ⟨gb114,1,none⟩ = some (.string a0_1):=(blk_cell BK114.out 1).trans rfl
             have hcz51_2 : wc.cell? ⟨gb114,2,none⟩ = some (.string a0_2):=(blk_cell BK114.out 2).trans rfl
             have hcz51_3 : wc.cell? ⟨gb114,3,none⟩ = some (.string a0_3):=(blk_cell BK114.out 3).trans rfl
             have hcz51_4 : wc.cell? ⟨gb114,4,none⟩ = some (.int .i64 a0_4):=(blk_cell BK114.out 4).trans rfl
             have hcz51_5 : wc.cell? ⟨gb114,5,none⟩ = some (.slice A0_5 l0_5.length c0_5):=(blk_cell BK114.out 5).trans rfl
             have hcz51_6 : wc.cell? ⟨gb114,6,none⟩ = some (.slice A0_6 l0_6.length c0_6):=(blk_cell BK114.out 6).trans rfl
             have hfz51_0:=blk_frozen BK114.out 0
             have hfz51_1:=blk_frozen BK114.out 1
             have hfz51_2:=blk_frozen BK114.out 2
             have hfz51_3:=blk_frozen BK114.out 3
             have hfz51_4:=blk_frozen BK114.out 4
             have hfz51_5:=blk_frozen BK114.out 5
             have hfz51_6:=blk_frozen BK114.out 6
             go_wp2
             go_ret
             exact ⟨by first | rfl | (simp [errW_none,errW_some] <;> rfl) | (simp [*,errW_none,errW_some] <;> rfl),by repeat (first | (with_reducible first | exact HB.out | apply below_alloc | apply pw_below_drewN | apply below_drew1 | refine below_set ?_ GE114.out) | exact HB.out)⟩
            ·rw [if_neg c50] at H
             have c50b0 : decide (1 ≤ a0_0) = false:=decide_eq_false c50
             clear c50
             obtain rfl:=Option.some.inj H
             have hcz52_0 : wc.cell? ⟨gb114,0,none⟩ = some (.int .i64 a0_0):=(blk_cell BK114.out 0).trans rfl
             have hcz52_1 : wc.cell? ⟨gb114,1,none⟩ = some (.string a0_1):=(blk_cell BK114.out 1).trans rfl
             have hcz52_2 : wc.cell? ⟨gb114,2,none⟩ = some (.string a0_2):=(blk_cell BK114.out 2).trans rfl
             have hcz52_3 : wc.cell? ⟨gb114,3,none⟩ = some (.string a0_3):=(blk_cell BK114.out 3).trans rfl
             have hcz52_4 : wc.cell? ⟨gb114,4,none⟩ = some (.int .i64 a0_4):=(blk_cell BK114.out 4).trans rfl
             have hcz52_5 : wc.cell? ⟨gb114,5,none⟩ = some (.slice A0_5 l0_5.length c0_5):=(blk_cell BK114.out 5).trans rfl
             have hcz52_6 : wc.cell? ⟨gb114,6,none⟩ = some (.slice A0_6 l0_6.length c0_6):=(blk_cell BK114.out 6).trans rfl
             have hfz52_0:=blk_frozen BK114.out 0
             have hfz52_1:=blk_frozen BK114.out 1
             have hfz52_2:=blk_frozen BK114.out 2
             have hfz52_3:=blk_frozen BK114.out 3
             have hfz52_4:=blk_frozen BK114.out 4
             have hfz52_5:=blk_frozen BK114.out 5
             have hfz52_6:=blk_frozen BK114.out 6
             go_wp2
             go_ret
             exact ⟨by first | rfl | (simp [errW_none,errW_some] <;> rfl) | (simp [*,errW_none,errW_some] <;> rfl),by repeat (first | (with_reducible first | exact HB.out | apply below_alloc | apply pw_below_drewN | apply below_drew1 | refine below_set ?_ GE114.out) | exact HB.out)⟩
           ·rw [if_neg c49] at H
            have c49b0 : (a0_2.toList == ([] : List UInt8)) = false:=beq_eq_false_iff_ne.mpr c49
            have c49b1 : (a0_2.toList != ([] : List UInt8)) = true:=bne_iff_ne.mpr c49
            obtain rfl:=Option.some.inj H
            have hcz53_0 : wc.cell? ⟨gb114,0,none⟩ = some (.int .i64 a0_0):=(blk_cell BK114.out 0).trans rfl
            have hcz53_1 : wc.cell? ⟨gb114,1,none⟩ = some (.string a0_1):=(blk_cell BK114.out 1).trans rfl
            have hcz53_2 : wc.cell? ⟨gb114,2,none⟩ = some (.string a0_2):=(blk_cell BK114.out 2).trans rfl
            have hcz53_3 : wc.cell? ⟨gb114,3,none⟩ = some (.string a0_3):=(blk_cell BK114.out 3).trans rfl
            have hcz53_4 : wc.cell? ⟨gb114,4,none⟩ = some (.int .i64 a0_4):=(blk_cell BK114.out 4).trans rfl
            have hcz53_5 : wc.cell? ⟨gb114,5,none⟩ = some (.slice A0_5 l0_5.length c0_5):=(blk_cell BK114.out 5).trans rfl
            have hcz53_6 : wc.cell? ⟨gb114,6,none⟩ = some (.slice A0_6 l0_6.length c0_6):=(blk_cell BK114.out 6).trans rfl
            have hfz53_0:=blk_frozen BK114.out 0
            have hfz53_1:=blk_frozen BK114.out 1
            have hfz53_2:=blk_frozen BK114.out 2
            have hfz53_3:=blk_frozen BK114.out 3
            have hfz53_4:=blk_frozen BK114.out 4
            have hfz53_5:=blk_frozen BK114.out 5
            have hfz53_6:=blk_frozen BK114.out 6
            go_wp2
            go_ret
            exact ⟨by first | rfl | (simp [errW_none,errW_some] <;> rfl) | (simp [*,errW_none,errW_some] <;> rfl),by repeat (first | (with_reducible first | exact HB.out | apply below_alloc | apply pw_below_drewN | apply below_drew1 | refine below_set ?_ GE114.out) | exact HB.out)⟩
        ·rw [if_neg c25] at H
         have c25b0 : (a0_3.toList == ([] : List UInt8)) = false:=beq_eq_false_iff_ne.mpr c25
         have c25b1 : (a0_3.toList != ([] : List UInt8)) = true:=bne_iff_ne.mpr c25
         obtain rfl:=Option.some.inj H
         have hcz54_0 : wc.cell? ⟨gb114,0,none⟩ = some (.int .i64 a0_0):=(blk_cell BK114.out 0).trans rfl
         have hcz54_1 : wc.cell? ⟨gb114,1,none⟩ = some (.string a0_1):=(blk_cell BK114.out 1).trans rfl
         have hcz54_2 : wc.cell? ⟨gb114,2,none⟩ = some (.string a0_2):=(blk_cell BK114.out 2).trans rfl
         have hcz54_3 : wc.cell? ⟨gb114,3,none⟩ = some (.string a0_3):=(blk_cell BK114.out 3).trans rfl
         have hcz54_4 : wc.cell? ⟨gb114,4,none⟩ = some (.int .i64 a0_4):=(blk_cell BK114.out 4).trans rfl
         have hcz54_5 : wc.cell? ⟨gb114,5,none⟩ = some (.slice A0_5 l0_5.length c0_5):=(blk_cell BK114.out 5).trans rfl
         have hcz54_6 : wc.cell? ⟨gb114,6,none⟩ = some (.slice A0_6 l0_6.length c0_6):=(blk_cell BK114.out 6).trans rfl
         have hfz54_0:=blk_frozen BK114.out 0
         have hfz54_1:=blk_frozen BK114.out 1
         have hfz54_2:=blk_frozen BK114.out 2
         have hfz54_3:=blk_frozen BK114.out 3
         have hfz54_4:=blk_frozen BK114.out 4
         have hfz54_5:=blk_frozen BK114.out 5
         have hfz54_6:=blk_frozen BK114.out 6
         go_wp2
         go_ret
         exact ⟨by first | rfl | (simp [errW_none,errW_some] <;> rfl) | (simp [*,errW_none,errW_some] <;> rfl),by repeat (first | (with_reducible first | exact HB.out | apply below_alloc | apply pw_below_drewN | apply below_drew1 | refine below_set ?_ GE114.out) | exact HB.out)⟩

end Go.Proofs.YthhohbidjhcjeaaDoor.Q
namespace Go.Proofs.YthhohbidjhcjeaaDoor.H
open Go.RowKit Go.Proofs.YthhohbidjhcjeaaDoorW.PrintWords Go.Proofs.YthhohbidjhcjeaaDoorW.PrintLast Go.Proofs.YthhohbidjhcjeaaDoorW.PrintMore
open Go.Proofs.YthhohbidjhcjeaaDoor.Q

def oppC : Array Value:=#[.int .i64 0,.int .i64 2,.int .i64 1,.int .i64 4,.int .i64 3,.int .i64 6,.int .i64 5,.int .i64 7,.int .i64 8,.int .i64 9,.int .i64 10]

set_option maxHeartbeats 400000 in
theorem opp_calls (w : World) : Calls Tryd.prog 45 #[] w fun e w' => e = .returned (.agg oppC) ∧ w' = w.alloc (.cells oppC 59):=by
 go_enter Tryd.func45,Tryd.ntmps45
 go_wp2
 exact bodyPost_ret (v:=.agg oppC) (by simp [results,Tryd.results45,go_sem,oppC]) rfl ⟨rfl,rfl⟩

set_option maxRecDepth 100000 in
set_option maxHeartbeats 2000000 in
theorem inv_add (k o : Int) (h1 : 1 ≤ k) (h6 : k ≤ 6) (hi : ∀ w,(Instr.index 59 (.agg oppC) (.int .i64 k)).run Tryd.prog w = .ok (.int .i64 o) w) (a1 a2 a3 : ByteArray) (a4 : Int) (A5 : Option Addr) (n5 c5 : Nat) (A6 : Option Addr) (n6 c6 : Nat) (w : World) :
  Calls Tryd.prog 18 #[.agg #[.int .i64 k,.string a1,.string a2,.string a3,.int .i64 a4,.slice A5 n5 c5,.slice A6 n6 c6]] w fun e w' =>
   e = .returned (.agg #[.int .i64 o,.string a1,.string a2,.string a3,.int .i64 a4,.slice A5 n5 c5,.slice A6 n6 c6]) ∧ Below w.heap.size w w':=by
 go_enter Tryd.func18,Tryd.ntmps18
 go_wp2_with (fail)
 go_region_with (go_at_call 45; refine (opp_calls _).mono ?_; rintro e w' ⟨rfl,rfl⟩)
 all_goals go_wp2
 all_goals (try (go_region; all_goals go_wp2))
 all_goals
  refine bodyPost_ret (v:=.agg #[.int .i64 o,.string a1,.string a2,.string a3,.int .i64 a4,.slice A5 n5 c5,.slice A6 n6 c6]) (by simp [results,Tryd.results18,go_sem]) rfl ⟨rfl,?_⟩
  repeat (first | exact Below.refl _ _ | refine Below.setCell ?_ (by simp <;> omega) _ | refine Below.alloc ?_ (by simp <;> omega) _ | refine Below.drew ?_)

set_option maxRecDepth 100000 in
set_option maxHeartbeats 2000000 in
theorem inv8 (a1 a2 a3 : ByteArray) (a4 : Int) (A5 : Option Addr) (n5 c5 : Nat) (A6 : Option Addr) (n6 c6 : Nat) (w : World) :
  Calls Tryd.prog 18 #[.agg #[.int .i64 8,.string a1,.string a2,.string a3,.int .i64 a4,.slice A5 n5 c5,.slice A6 n6 c6]] w fun e w' =>
   e = .returned (.agg #[.int .i64 8,.string a1,.string a3,.string a2,.int .i64 a4,.slice A5 n5 c5,.slice A6 n6 c6]) ∧ Below w.heap.size w w':=by
 have hi : ∀ w,(Instr.index 59 (.agg oppC) (.int .i64 8)).run Tryd.prog w = .ok (.int .i64 8) w:=fun _ => by kernel_rfl
 go_enter Tryd.func18,Tryd.ntmps18
 go_wp2_with (fail)
 go_region_with (go_at_call 45; refine (opp_calls _).mono ?_; rintro e w' ⟨rfl,rfl⟩)
 all_goals go_wp2
 all_goals (go_region; all_goals go_wp2)
 all_goals
  refine bodyPost_ret (v:=.agg #[.int .i64 8,.string a1,.string a3,.string a2,.int .i64 a4,.slice A5 n5 c5,.slice A6 n6 c6]) (by simp [results,Tryd.results18,go_sem]) rfl ⟨rfl,?_⟩
  repeat (first | exact Below.refl _ _ | refine Below.setCell ?_ (by simp <;> omega) _ | refine Below.alloc ?_ (by simp <;> omega) _ | refine Below.drew ?_)

set_option maxRecDepth 100000 in
set_option maxHeartbeats 2000000 in
theorem inv9 (a1 a2 a3 : ByteArray) (a4 : Int) (A5 : Option Addr) (n5 c5 : Nat) (A6 : Option Addr) (n6 c6 : Nat) (w : World) :
  Calls Tryd.prog 18 #[.agg #[.int .i64 9,.string a1,.string a2,.string a3,.int .i64 a4,.slice A5 n5 c5,.slice A6 n6 c6]] w fun e w' =>
   e = .returned (.agg #[.int .i64 9,.string a1,.string a3,.string a2,.int .i64 a4,.slice A5 n5 c5,.slice A6 n6 c6]) ∧ Below w.heap.size w w':=by
 have hi : ∀ w,(Instr.index 59 (.agg oppC) (.int .i64 9)).run Tryd.prog w = .ok (.int .i64 9) w:=fun _ => by kernel_rfl
 go_enter Tryd.func18,Tryd.ntmps18
 go_wp2_with (fail)
 go_region_with (go_at_call 45; refine (opp_calls _).mono ?_; rintro e w' ⟨rfl,rfl⟩)
 all_goals go_wp2
 all_goals (go_region; all_goals go_wp2)
 all_goals
  refine bodyPost_ret (v:=.agg #[.int .i64 9,.string a1,.string a3,.string a2,.int .i64 a4,.slice A5 n5 c5,.slice A6 n6 c6]) (by simp [results,Tryd.results18,go_sem]) rfl ⟨rfl,?_⟩
  repeat (first | exact Below.refl _ _ | refine Below.setCell ?_ (by simp <;> omega) _ | refine Below.alloc ?_ (by simp <;> omega) _ | refine Below.drew ?_)

set_option maxRecDepth 100000 in
set_option maxHeartbeats 2000000 in
theorem inv10 (a1 a2 a3 : ByteArray) (a4 : Int) (A5 : Option Addr) (n5 c5 : Nat) (A6 : Option Addr) (n6 c6 : Nat) (w : World) :
  Calls Tryd.prog 18 #[.agg #[.int .i64 10,.string a1,.string a2,.string a3,.int .i64 a4,.slice A5 n5 c5,.slice A6 n6 c6]] w fun e w' =>
   e = .returned (.agg #[.int .i64 10,.string a2,.string a1,.string a3,.int .i64 a4,.slice A5 n5 c5,.slice A6 n6 c6]) ∧ Below w.heap.size w w':=by
 have hi : ∀ w,(Instr.index 59 (.agg oppC) (.int .i64 10)).run Tryd.prog w = .ok (.int .i64 10) w:=fun _ => by kernel_rfl
 go_enter Tryd.func18,Tryd.ntmps18
 go_wp2_with (fail)
 go_region_with (go_at_call 45; refine (opp_calls _).mono ?_; rintro e w' ⟨rfl,rfl⟩)
 all_goals go_wp2
 all_goals (go_region; all_goals go_wp2)
 all_goals
  refine bodyPost_ret (v:=.agg #[.int .i64 10,.string a2,.string a1,.string a3,.int .i64 a4,.slice A5 n5 c5,.slice A6 n6 c6]) (by simp [results,Tryd.results18,go_sem]) rfl ⟨rfl,?_⟩
  repeat (first | exact Below.refl _ _ | refine Below.setCell ?_ (by simp <;> omega) _ | refine Below.alloc ?_ (by simp <;> omega) _ | refine Below.drew ?_)

set_option maxRecDepth 100000 in
set_option maxHeartbeats 2000000 in
theorem inv7 (a1 a2 a3 : ByteArray) (a4 : Int) (A5 : Option Addr) (n5 c5 : Nat) (A6 : Option Addr) (n6 c6 : Nat) (w : World) :
  Calls Tryd.prog 18 #[.agg #[.int .i64 7,.string a1,.string a2,.string a3,.int .i64 a4,.slice A5 n5 c5,.slice A6 n6 c6]] w fun e w' =>
   e = .returned (.agg #[.int .i64 7,.string a1,.string a2,.string a3,.int .i64 a4,.slice A6 n6 c6,.slice A5 n5 c5]) ∧ Below w.heap.size w w':=by
 have hi : ∀ w,(Instr.index 59 (.agg oppC) (.int .i64 7)).run Tryd.prog w = .ok (.int .i64 7) w:=fun _ => by kernel_rfl
 go_enter Tryd.func18,Tryd.ntmps18
 go_wp2_with (fail)
 go_region_with (go_at_call 45; refine (opp_calls _).mono ?_; rintro e w' ⟨rfl,rfl⟩)
 all_goals go_wp2
 all_goals (go_region; all_goals go_wp2)
 all_goals
  refine bodyPost_ret (v:=.agg #[.int .i64 7,.string a1,.string a2,.string a3,.int .i64 a4,.slice A6 n6 c6,.slice A5 n5 c5]) (by simp [results,Tryd.results18,go_sem]) rfl ⟨rfl,?_⟩
  repeat (first | exact Below.refl _ _ | refine Below.setCell ?_ (by simp <;> omega) _ | refine Below.alloc ?_ (by simp <;> omega) _ | refine Below.drew ?_)

set_option maxRecDepth 100000 in
set_option maxHeartbeats 2000000 in
theorem inv_no (k : Int) (hk : k < 1 ∨ 10 < k) (a1 a2 a3 : ByteArray) (a4 : Int) (A5 : Option Addr) (n5 c5 : Nat) (A6 : Option Addr) (n6 c6 : Nat) (w : World) :
  Calls Tryd.prog 18 #[.agg #[.int .i64 k,.string a1,.string a2,.string a3,.int .i64 a4,.slice A5 n5 c5,.slice A6 n6 c6]] w fun e w' =>
   e = .returned (.agg #[.int .i64 0,.string ⟨#[]⟩,.string ⟨#[]⟩,.string ⟨#[]⟩,.int .i64 0,.slice none 0 0,.slice none 0 0]) ∧ Below w.heap.size w w':=by
 rcases hk with hk | hk
 ·go_enter Tryd.func18,Tryd.ntmps18
  go_wp2
  refine bodyPost_ret (v:=.agg #[.int .i64 0,.string ⟨#[]⟩,.string ⟨#[]⟩,.string ⟨#[]⟩,.int .i64 0,.slice none 0 0,.slice none 0 0]) (by simp [results,Tryd.results18,go_sem]) rfl ⟨rfl,?_⟩
  repeat (first | exact Below.refl _ _ | refine Below.setCell ?_ (by simp <;> omega) _ | refine Below.alloc ?_ (by simp <;> omega) _ | refine Below.drew ?_)
 ·have h1 : ¬ k < 1:=by omega
  go_enter Tryd.func18,Tryd.ntmps18
  go_wp2
  refine bodyPost_ret (v:=.agg #[.int .i64 0,.string ⟨#[]⟩,.string ⟨#[]⟩,.string ⟨#[]⟩,.int .i64 0,.slice none 0 0,.slice none 0 0]) (by simp [results,Tryd.results18,go_sem]) rfl ⟨rfl,?_⟩
  repeat (first | exact Below.refl _ _ | refine Below.setCell ?_ (by simp <;> omega) _ | refine Below.alloc ?_ (by simp <;> omega) _ | refine Below.drew ?_)

/-! ### what Invert answers -/
def opp (k : Int) : Int:=if k % 2 = 1 then k + 1 else k - 1
def invS (p : S24) : S24 :=
 if p.f0 < 1 ∨ 10 < p.f0 then z24
 else if p.f0 = 7 then ⟨7,p.f1,p.f2,p.f3,p.f4,p.f6,p.f5⟩
 else if p.f0 = 8 then ⟨8,p.f1,p.f3,p.f2,p.f4,p.f5,p.f6⟩
 else if p.f0 = 9 then ⟨9,p.f1,p.f3,p.f2,p.f4,p.f5,p.f6⟩
 else if p.f0 = 10 then ⟨10,p.f2,p.f1,p.f3,p.f4,p.f5,p.f6⟩
 else ⟨opp p.f0,p.f1,p.f2,p.f3,p.f4,p.f5,p.f6⟩

set_option maxRecDepth 100000 in
theorem idx_opp (k : Int) (h1 : 1 ≤ k) (h6 : k ≤ 6) : ∀ w,(Instr.index 59 (.agg oppC) (.int .i64 k)).run Tryd.prog w = .ok (.int .i64 (opp k)) w:=by
 have : k = 1 ∨ k = 2 ∨ k = 3 ∨ k = 4 ∨ k = 5 ∨ k = 6:=by omega
 rcases this with rfl | rfl | rfl | rfl | rfl | rfl <;> exact fun _ => by kernel_rfl

/-- Invert at a patch whose cells are known. -/
theorem inv_cells (x : S24) (A5 : Option Addr) (c5 : Nat) (A6 : Option Addr) (c6 : Nat) (w : World) (ok : Nat → Prop) (l5 : x.f5.length ≤ c5) (g5 : Kd.F Kd.string w ok A5 x.f5.length x.f5) (l6 : x.f6.length ≤ c6) (g6 : Kd.F Kd.string w ok A6 x.f6.length x.f6) :
  Calls Tryd.prog 18 #[.agg #[.int .i64 x.f0,.string x.f1,.string x.f2,.string x.f3,.int .i64 x.f4,.slice A5 x.f5.length c5,.slice A6 x.f6.length c6]] w fun e w' =>
   ∃ B5 d5 B6 d6,e = .returned (.agg #[.int .i64 (invS x).f0,.string (invS x).f1,.string (invS x).f2,.string (invS x).f3,.int .i64 (invS x).f4,.slice B5 (invS x).f5.length d5,.slice B6 (invS x).f6.length d6]) ∧
    (invS x).f5.length ≤ d5 ∧ Kd.F Kd.string w' ok B5 (invS x).f5.length (invS x).f5 ∧ (invS x).f6.length ≤ d6 ∧ Kd.F Kd.string w' ok B6 (invS x).f6.length (invS x).f6 ∧ Below w.heap.size w w':=by
 obtain ⟨x0,x1,x2,x3,x4,x5,x6⟩:=x
 simp only [invS]
 by_cases h : x0 < 1 ∨ 10 < x0
 ·rw [if_pos h]
  refine (inv_no x0 h x1 x2 x3 x4 A5 _ c5 A6 _ c6 w).mono ?_
  rintro e w' ⟨rfl,hb⟩
  exact ⟨none,0,none,0,rfl,Nat.le_refl _,Kd.F_nil _ _ _,Nat.le_refl _,Kd.F_nil _ _ _,hb⟩
 rw [if_neg h]
 by_cases h7 : x0 = 7
 ·subst h7
  rw [if_pos rfl]
  refine (inv7 x1 x2 x3 x4 A5 _ c5 A6 _ c6 w).mono ?_
  rintro e w' ⟨rfl,hb⟩
  exact ⟨_,_,_,_,rfl,l6,Kd.F_below g6 hb,l5,Kd.F_below g5 hb,hb⟩
 rw [if_neg h7]
 by_cases h8 : x0 = 8
 ·subst h8
  rw [if_pos rfl]
  refine (inv8 x1 x2 x3 x4 A5 _ c5 A6 _ c6 w).mono ?_
  rintro e w' ⟨rfl,hb⟩
  exact ⟨_,_,_,_,rfl,l5,Kd.F_below g5 hb,l6,Kd.F_below g6 hb,hb⟩
 rw [if_neg h8]
 by_cases h9 : x0 = 9
 ·subst h9
  rw [if_pos rfl]
  refine (inv9 x1 x2 x3 x4 A5 _ c5 A6 _ c6 w).mono ?_
  rintro e w' ⟨rfl,hb⟩
  exact ⟨_,_,_,_,rfl,l5,Kd.F_below g5 hb,l6,Kd.F_below g6 hb,hb⟩
 rw [if_neg h9]
 by_cases h10 : x0 = 10
 ·subst h10
  rw [if_pos rfl]
  refine (inv10 x1 x2 x3 x4 A5 _ c5 A6 _ c6 w).mono ?_
  rintro e w' ⟨rfl,hb⟩
  exact ⟨_,_,_,_,rfl,l5,Kd.F_below g5 hb,l6,Kd.F_below g6 hb,hb⟩
 rw [if_neg h10]
 refine (inv_add x0 (opp x0) (by omega) (by omega) (idx_opp x0 (by omega) (by omega)) x1 x2 x3 x4 A5 _ c5 A6 _ c6 w).mono ?_
 rintro e w' ⟨rfl,hb⟩
 exact ⟨_,_,_,_,rfl,l5,Kd.F_below g5 hb,l6,Kd.F_below g6 hb,hb⟩

end Go.Proofs.YthhohbidjhcjeaaDoor.H

namespace Go.Proofs.YthhohbidjhcjeaaDoor.Q
open Go.RowKit Go.Proofs.YthhohbidjhcjeaaDoorW.PrintWords Go.Proofs.YthhohbidjhcjeaaDoorW.PrintLast Go.Proofs.YthhohbidjhcjeaaDoorW.PrintMore
open Go.Proofs.YthhohbidjhcjeaaDoor.H
/-! ### in the printed form -/
end Go.Proofs.YthhohbidjhcjeaaDoor.Q
namespace Go.Proofs.YthhohbidjhcjeaaDoor.Pl
open Go.RowKit Go.Proofs.YthhohbidjhcjeaaDoorW.PrintWords Go.Proofs.YthhohbidjhcjeaaDoorW.PrintMore Go.Proofs.YthhohbidjhcjeaaDoor.Q

theorem toList_inj {a b : ByteArray} (h : a.toList = b.toList) : a = b:=by
 rw [Go.ByteArray.toList_eq,Go.ByteArray.toList_eq] at h
 obtain ⟨⟨a⟩⟩:=a
 obtain ⟨⟨b⟩⟩:=b
 simp at h
 rw [h]
theorem wrap_id {i : Int} (h0 : -9223372036854775808 ≤ i) (h : i ≤ 9223372036854775807) : wrap64 i = i:=by
 unfold wrap64
 omega
theorem wrap_1 {i n : Nat} (h : i < n) (hn : n ≤ 140737488355328) : wrap64 ((i : Int) + 1) = ((i + 1 : Nat) : Int):=by
 unfold wrap64
 omega
theorem mn_le (a b : Int) : mn a b ≤ b:=by unfold mn; split <;> omega
theorem mn_nn {a b : Int} (ha : 0 ≤ a) (hb : 0 ≤ b) : 0 ≤ mn a b:=by unfold mn; split <;> omega
theorem rdOf_get {α : Type} (d : α) (xs : List α) {i : Nat} (h : i < xs.length) : rdOf d xs (i : Int) = xs[i]:=by
 simp [rdOf,List.getD_eq_getElem?_getD,h]
theorem rd_T24_get (xs : List S24) {i : Nat} (h : i < xs.length) : rd_T24 xs (i : Int) = xs[i]:=by
 simp [rd_T24,List.getD_eq_getElem?_getD,h]

/-! ### texts alike -/
theorem same05_l (a b : List ByteArray) (hl : a.length = b.length) (hn : a.length ≤ 140737488355328) : ∀ (d i : Nat),i + d = a.length → ∃ r,Ev (fun k => counterpaneref05_Same.l0 k a b (i : Int)) r ∧ (r = true ↔ a.drop i = b.drop i):=by
 intro d
 induction d with
 | zero =>
  intro i hi
  refine ⟨true,Ev.step (f:=fun _ => some true) (fun k => ?_) (Ev.now _),?_⟩
  ·simp only [counterpaneref05_Same.l0]
   rw [if_neg (by omega)]
  ·rw [List.drop_of_length_le (by omega),List.drop_of_length_le (by omega)]
   simp
 | succ d ih =>
  intro i hi
  have h1 : i < a.length:=by omega
  have h2 : i < b.length:=by omega
  have ea : a.drop i = a[i] :: a.drop (i + 1):=List.drop_eq_getElem_cons h1
  have eb : b.drop i = b[i] :: b.drop (i + 1):=List.drop_eq_getElem_cons h2
  by_cases hc : a[i] = b[i]
  ·obtain ⟨r,hr,hiff⟩:=ih (i + 1) (by omega)
   refine ⟨r,Ev.step (f:=fun k => counterpaneref05_Same.l0 k a b ((i + 1 : Nat) : Int)) (fun k => ?_) hr,?_⟩
   ·simp only [counterpaneref05_Same.l0]
    rw [if_pos (by omega),if_pos (by omega),if_pos (by omega),rdOf_get _ _ h1,rdOf_get _ _ h2,if_pos (by rw [hc]),wrap_1 h1 hn]
   ·rw [ea,eb,hiff,hc]
    exact ⟨fun h => by rw [h],fun h => (List.cons.inj h).2⟩
  ·refine ⟨false,Ev.step (f:=fun _ => some false) (fun k => ?_) (Ev.now _),?_⟩
   ·simp only [counterpaneref05_Same.l0]
    rw [if_pos (by omega),if_pos (by omega),if_pos (by omega),rdOf_get _ _ h1,rdOf_get _ _ h2,if_neg (fun h => hc (toList_inj h))]
   ·rw [ea,eb]
    exact ⟨fun h => (by cases h),fun h => absurd (List.cons.inj h).1 hc⟩
theorem same05 (a b : List ByteArray) (hn : a.length ≤ 140737488355328) : ∃ r,Ev (fun k => counterpaneref05_Same.f k a b) r ∧ (r = true ↔ a = b):=by
 by_cases hl : a.length = b.length
 ·obtain ⟨r,hr,hiff⟩:=same05_l a b hl hn a.length 0 (by omega)
  refine ⟨r,Ev.congr (fun k => ?_) hr,by simpa using hiff⟩
  unfold counterpaneref05_Same.f
  rw [if_pos (by omega)]
  rfl
 ·refine ⟨false,Ev.congr (fun k => ?_) (Ev.now _),?_⟩
  ·unfold counterpaneref05_Same.f
   rw [if_neg (by omega)]
  ·simp only [Bool.false_eq_true,false_iff]
   rintro rfl
   exact hl rfl

/-! ### patches alike -/
/-- A patch's lists are no longer than lists can be. -/
def Ok24 (x : S24) : Prop:=x.f5.length ≤ 140737488355328 ∧ x.f6.length ≤ 140737488355328
theorem same08 (x y : S24) (hx : Ok24 x) : ∃ r,Ev (fun k => counterpaneref08_Same.f k x.f0 x.f1 x.f2 x.f3 x.f4 x.f5 x.f6 y.f0 y.f1 y.f2 y.f3 y.f4 y.f5 y.f6) r ∧ (r = true ↔ x = y):=by
 obtain ⟨x0,x1,x2,x3,x4,x5,x6⟩:=x
 obtain ⟨y0,y1,y2,y3,y4,y5,y6⟩:=y
 unfold counterpaneref08_Same.f
 rcases Classical.em (x0 = y0) with h0 | h0
 rotate_left
 ·exact ⟨false,Ev.congr (fun k => if_neg h0) (Ev.now _),by simp [h0]⟩
 rcases Classical.em (x1 = y1) with h1 | h1
 rotate_left
 ·exact ⟨false,Ev.congr (fun k => (if_pos h0).trans (if_neg (fun h => h1 (toList_inj h)))) (Ev.now _),by simp [h1]⟩
 rcases Classical.em (x2 = y2) with h2 | h2
 rotate_left
 ·exact ⟨false,Ev.congr (fun k => (if_pos h0).trans ((if_pos (by rw [h1])).trans (if_neg (fun h => h2 (toList_inj h))))) (Ev.now _),by simp [h2]⟩
 rcases Classical.em (x3 = y3) with h3 | h3
 rotate_left
 ·exact ⟨false,Ev.congr (fun k => (if_pos h0).trans ((if_pos (by rw [h1])).trans ((if_pos (by rw [h2])).trans (if_neg (fun h => h3 (toList_inj h)))))) (Ev.now _),by simp [h3]⟩
 rcases Classical.em (x4 = y4) with h4 | h4
 rotate_left
 ·exact ⟨false,Ev.congr (fun k => (if_pos h0).trans ((if_pos (by rw [h1])).trans ((if_pos (by rw [h2])).trans ((if_pos (by rw [h3])).trans (if_neg h4))))) (Ev.now _),by simp [h4]⟩
 subst h0 h1 h2 h3 h4
 simp only [if_true]
 obtain ⟨r5,e5,i5⟩:=same05 x5 y5 hx.1
 obtain ⟨r6,e6,i6⟩:=same05 x6 y6 hx.2
 cases r5 with
 | false =>
  refine ⟨false,Ev.bind e5 (Ev.congr (fun k => if_neg (by simp)) (Ev.now _)),?_⟩
  have h5 : ¬ x5 = y5:=fun h => by have:=i5.2 h; cases this
  simp [h5]
 | true =>
  have h5 : x5 = y5:=i5.1 rfl
  refine ⟨r6,Ev.bind e5 (Ev.congr (fun k => if_pos rfl) (Ev.bind e6 (Ev.now _))),?_⟩
  rw [i6]
  simp [h5]

theorem sameList_l (a b : List S24) (hl : a.length = b.length) (hn : a.length ≤ 140737488355328) (hok : ∀ x ∈ a,Ok24 x) : ∀ (d i : Nat),i + d = a.length → ∃ r,Ev (fun k => counterpaneref08_SameList.l0 k a b (i : Int)) r ∧ (r = true ↔ a.drop i = b.drop i):=by
 intro d
 induction d with
 | zero =>
  intro i hi
  refine ⟨true,Ev.step (f:=fun _ => some true) (fun k => ?_) (Ev.now _),?_⟩
  ·simp only [counterpaneref08_SameList.l0]
   rw [if_neg (by omega)]
  ·rw [List.drop_of_length_le (by omega),List.drop_of_length_le (by omega)]
   simp
 | succ d ih =>
  intro i hi
  have h1 : i < a.length:=by omega
  have h2 : i < b.length:=by omega
  have ea : a.drop i = a[i] :: a.drop (i + 1):=List.drop_eq_getElem_cons h1
  have eb : b.drop i = b[i] :: b.drop (i + 1):=List.drop_eq_getElem_cons h2
  obtain ⟨s,hs,his⟩:=same08 a[i] b[i] (hok _ (List.getElem_mem h1))
  cases s with
  | true =>
   obtain ⟨r,hr,hiff⟩:=ih (i + 1) (by omega)
   refine ⟨r,Ev.step (f:=fun k => (counterpaneref08_Same.f k a[i].f0 a[i].f1 a[i].f2 a[i].f3 a[i].f4 a[i].f5 a[i].f6 b[i].f0 b[i].f1 b[i].f2 b[i].f3 b[i].f4 b[i].f5 b[i].f6).bind fun t => if t = true then counterpaneref08_SameList.l0 k a b ((i + 1 : Nat) : Int) else some false) (fun k => ?_) (Ev.bind hs (Ev.congr (fun k => if_pos rfl) hr)),?_⟩
   ·simp only [counterpaneref08_SameList.l0]
    rw [if_pos (by omega),if_pos (by omega),if_pos (by omega),rd_T24_get _ h1,rd_T24_get _ h2,wrap_1 h1 hn]
   ·rw [ea,eb,hiff,his.1 rfl]
    exact ⟨fun h => by rw [h],fun h => (List.cons.inj h).2⟩
  | false =>
   refine ⟨false,Ev.step (f:=fun k => (counterpaneref08_Same.f k a[i].f0 a[i].f1 a[i].f2 a[i].f3 a[i].f4 a[i].f5 a[i].f6 b[i].f0 b[i].f1 b[i].f2 b[i].f3 b[i].f4 b[i].f5 b[i].f6).bind fun t => if t = true then counterpaneref08_SameList.l0 k a b ((i + 1 : Nat) : Int) else some false) (fun k => ?_) (Ev.bind hs (Ev.congr (fun k => if_neg (by simp)) (Ev.now _))),?_⟩
   ·simp only [counterpaneref08_SameList.l0]
    rw [if_pos (by omega),if_pos (by omega),if_pos (by omega),rd_T24_get _ h1,rd_T24_get _ h2,wrap_1 h1 hn]
   ·have hne : ¬ a[i] = b[i]:=fun h => by have:=his.2 h; cases this
    rw [ea,eb]
    exact ⟨fun h => (by cases h),fun h => absurd (List.cons.inj h).1 hne⟩
theorem sameList (a b : List S24) (hn : a.length ≤ 140737488355328) (hok : ∀ x ∈ a,Ok24 x) : ∃ r,Ev (fun k => counterpaneref08_SameList.f k a b) r ∧ (r = true ↔ a = b):=by
 by_cases hl : a.length = b.length
 ·obtain ⟨r,hr,hiff⟩:=sameList_l a b hl hn hok a.length 0 (by omega)
  refine ⟨r,Ev.congr (fun k => ?_) hr,by simpa using hiff⟩
  unfold counterpaneref08_SameList.f
  rw [if_pos (by omega)]
  rfl
 ·refine ⟨false,Ev.congr (fun k => ?_) (Ev.now _),?_⟩
  ·unfold counterpaneref08_SameList.f
   rw [if_neg (by omega)]
  ·simp only [Bool.false_eq_true,false_iff]
   rintro rfl
   exact hl rfl

/-! ### is a patch too much? -/
theorem great_l1 (x : S24) (hx : Ok24 x) : ∀ (d i : Nat) (n : Int),i + d = x.f6.length → 0 ≤ n → n ≤ 1000000000000000000 → ∃ r,Ev (fun k => counterpanelaw08_Great.l1 k n (i : Int) x.f0 x.f1 x.f2 x.f3 x.f4 x.f5 x.f6) r ∧ (r = false → n < 4000):=by
 intro d
 induction d with
 | zero =>
  intro i n hi h0 hm
  refine ⟨decide (n ≥ 4000),Ev.step (f:=fun _ => some (decide (n ≥ 4000))) (fun k => ?_) (Ev.now _),?_⟩
  ·simp only [counterpanelaw08_Great.l1]
   rw [if_neg (by omega)]
  ·intro h; simpa using h
 | succ d ih =>
  intro i n hi h0 hm
  have h1 : i < x.f6.length:=by omega
  by_cases hn : n < 4000
  ·have hb:=mn_le ((rdOf ByteArray.empty x.f6 (i : Int)).size : Int) 4000
   have hb0:=mn_nn (a:=((rdOf ByteArray.empty x.f6 (i : Int)).size : Int)) (b:=4000) (by omega) (by omega)
   obtain ⟨r,hr,hlt⟩:=ih (i + 1) (n + mn ((rdOf ByteArray.empty x.f6 (i : Int)).size : Int) 4000) (by omega) (by omega) (by omega)
   refine ⟨r,Ev.step (f:=fun k => counterpanelaw08_Great.l1 k (n + mn ((rdOf ByteArray.empty x.f6 (i : Int)).size : Int) 4000) ((i + 1 : Nat) : Int) x.f0 x.f1 x.f2 x.f3 x.f4 x.f5 x.f6) (fun k => ?_) hr,fun _ => hn⟩
   simp only [counterpanelaw08_Great.l1]
   rw [if_pos (by omega),if_pos hn,if_pos (by omega),wrap_1 h1 hx.2,wrap_id (by omega) (by omega)]
  ·refine ⟨decide (n ≥ 4000),Ev.step (f:=fun _ => some (decide (n ≥ 4000))) (fun k => ?_) (Ev.now _),?_⟩
   ·simp only [counterpanelaw08_Great.l1]
    rw [if_pos (by omega),if_neg hn]
   ·intro h; simpa using h
theorem great_j1 (x : S24) (hx : Ok24 x) (n : Int) (h0 : 0 ≤ n) (hm : n ≤ 1000000000000000000) : ∃ r,Ev (fun k => counterpanelaw08_Great.j1 k n x.f0 x.f1 x.f2 x.f3 x.f4 x.f5 x.f6) r ∧ (r = false → n < 4000):=by
 obtain ⟨r,hr,h⟩:=great_l1 x hx x.f6.length 0 n (by omega) h0 hm
 exact ⟨r,Ev.step (f:=fun k => counterpanelaw08_Great.l1 k n ((0 : Nat) : Int) x.f0 x.f1 x.f2 x.f3 x.f4 x.f5 x.f6) (fun k => by simp only [counterpanelaw08_Great.j1]; rfl) hr,h⟩
theorem great_l0 (x : S24) (hx : Ok24 x) : ∀ (d i : Nat) (n : Int),i + d = x.f5.length → 0 ≤ n → n ≤ 1000000000000000000 → ∃ r,Ev (fun k => counterpanelaw08_Great.l0 k n (i : Int) x.f0 x.f1 x.f2 x.f3 x.f4 x.f5 x.f6) r ∧ (r = false → n < 4000):=by
 intro d
 induction d with
 | zero =>
  intro i n hi h0 hm
  obtain ⟨r,hr,h⟩:=great_j1 x hx n h0 hm
  refine ⟨r,Ev.step (f:=fun k => counterpanelaw08_Great.j1 k n x.f0 x.f1 x.f2 x.f3 x.f4 x.f5 x.f6) (fun k => ?_) hr,h⟩
  simp only [counterpanelaw08_Great.l0]
  rw [if_neg (by omega)]
 | succ d ih =>
  intro i n hi h0 hm
  have h1 : i < x.f5.length:=by omega
  by_cases hn : n < 4000
  ·have hb:=mn_le ((rdOf ByteArray.empty x.f5 (i : Int)).size : Int) 4000
   have hb0:=mn_nn (a:=((rdOf ByteArray.empty x.f5 (i : Int)).size : Int)) (b:=4000) (by omega) (by omega)
   obtain ⟨r,hr,hlt⟩:=ih (i + 1) (n + mn ((rdOf ByteArray.empty x.f5 (i : Int)).size : Int) 4000) (by omega) (by omega) (by omega)
   refine ⟨r,Ev.step (f:=fun k => counterpanelaw08_Great.l0 k (n + mn ((rdOf ByteArray.empty x.f5 (i : Int)).size : Int) 4000) ((i + 1 : Nat) : Int) x.f0 x.f1 x.f2 x.f3 x.f4 x.f5 x.f6) (fun k => ?_) hr,fun _ => hn⟩
   simp only [counterpanelaw08_Great.l0]
   rw [if_pos (by omega),if_pos hn,if_pos (by omega),wrap_1 h1 hx.1,wrap_id (by omega) (by omega)]
  ·obtain ⟨r,hr,h⟩:=great_j1 x hx n h0 hm
   refine ⟨r,Ev.step (f:=fun k => counterpanelaw08_Great.j1 k n x.f0 x.f1 x.f2 x.f3 x.f4 x.f5 x.f6) (fun k => ?_) hr,h⟩
   simp only [counterpanelaw08_Great.l0]
   rw [if_pos (by omega),if_neg hn]
/-- Great answers; where it says no, the lists are short. -/
theorem great (x : S24) (hx : Ok24 x) : ∃ r,Ev (fun k => counterpanelaw08_Great.f k x.f0 x.f1 x.f2 x.f3 x.f4 x.f5 x.f6) r ∧ (r = false → x.f5.length + x.f6.length < 4000):=by
 have b1:=mn_le (x.f1.size : Int) 4000
 have b2:=mn_le (x.f2.size : Int) 4000
 have b3:=mn_le (x.f3.size : Int) 4000
 have c1:=mn_nn (a:=(x.f1.size : Int)) (b:=4000) (by omega) (by omega)
 have c2:=mn_nn (a:=(x.f2.size : Int)) (b:=4000) (by omega) (by omega)
 have c3:=mn_nn (a:=(x.f3.size : Int)) (b:=4000) (by omega) (by omega)
 have k5:=hx.1
 have k6:=hx.2
 obtain ⟨r,hr,h⟩:=great_l0 x hx x.f5.length 0 (mn (x.f1.size : Int) 4000 + mn (x.f2.size : Int) 4000 + mn (x.f3.size : Int) 4000 + (x.f5.length : Int) + (x.f6.length : Int)) (by omega) (by omega) (by omega)
 refine ⟨r,Ev.congr (fun k => ?_) hr,fun he => by have:=h he; omega⟩
 unfold counterpanelaw08_Great.f
 rw [wrap_id (i:=mn (x.f1.size : Int) 4000 + mn (x.f2.size : Int) 4000 + mn (x.f3.size : Int) 4000 + (x.f5.length : Int)) (by omega) (by omega),wrap_id (by omega) (by omega)]
 rfl
theorem greatList_l (a : List S24) (hn : a.length ≤ 140737488355328) (hok : ∀ x ∈ a,Ok24 x) : ∀ (d i : Nat),i + d = a.length → ∃ r,Ev (fun k => counterpanelaw08_GreatList.l0 k a (i : Int)) r:=by
 intro d
 induction d with
 | zero =>
  intro i hi
  refine ⟨false,Ev.step (f:=fun _ => some false) (fun k => ?_) (Ev.now _)⟩
  simp only [counterpanelaw08_GreatList.l0]
  rw [if_neg (by omega)]
 | succ d ih =>
  intro i hi
  have h1 : i < a.length:=by omega
  obtain ⟨s,hs,_⟩:=great a[i] (hok _ (List.getElem_mem h1))
  obtain ⟨r,hr⟩:=ih (i + 1) (by omega)
  refine ⟨if s = true then true else r,Ev.step (f:=fun k => (counterpanelaw08_Great.f k a[i].f0 a[i].f1 a[i].f2 a[i].f3 a[i].f4 a[i].f5 a[i].f6).bind fun t => if t = true then some true else counterpanelaw08_GreatList.l0 k a ((i + 1 : Nat) : Int)) (fun k => ?_) (Ev.bind hs ?_)⟩
  ·simp only [counterpanelaw08_GreatList.l0]
   rw [if_pos (by omega),if_pos (by omega),rd_T24_get _ h1,wrap_1 h1 hn]
  ·cases s with
   | true => exact Ev.congr (fun k => if_pos rfl) (Ev.now _)
   | false => exact Ev.congr (fun k => if_neg (by simp)) hr
/-- GreatList answers; where it says no, there are at most sixty. -/
theorem greatList (a : List S24) (hn : a.length ≤ 140737488355328) (hok : ∀ x ∈ a,Ok24 x) : ∃ r,Ev (fun k => counterpanelaw08_GreatList.f k a) r ∧ (r = false → a.length ≤ 60):=by
 unfold counterpanelaw08_GreatList.f
 by_cases h : (a.length : Int) > 60
 ·exact ⟨true,Ev.congr (fun k => if_pos h) (Ev.now _),fun h => by cases h⟩
 ·obtain ⟨r,hr⟩:=greatList_l a hn hok a.length 0 (by omega)
  exact ⟨r,Ev.congr (fun k => if_neg h) hr,fun _ => by omega⟩
end Go.Proofs.YthhohbidjhcjeaaDoor.Pl

namespace Go.Proofs.YthhohbidjhcjeaaDoor.Pl
open Go.RowKit Go.Proofs.YthhohbidjhcjeaaDoorW.PrintWords Go.Proofs.YthhohbidjhcjeaaDoorW.PrintMore Go.Proofs.YthhohbidjhcjeaaDoor.Q Go.Proofs.YthhohbidjhcjeaaDoor.H

/-- A patch's texts and lists are no longer than they can be. -/
structure Okp (x : S24) : Prop where
 ok : Ok24 x
 s1 : x.f1.size ≤ 140737488355328
 s2 : x.f2.size ≤ 140737488355328
 s3 : x.f3.size ≤ 140737488355328
theorem okp_inv {x : S24} (h : Okp x) : Okp (invS x):=by
 obtain ⟨⟨h5,h6⟩,s1,s2,s3⟩:=h
 have z : (0 : Nat) ≤ 140737488355328:=Nat.zero_le _
 have ze : (⟨#[]⟩ : ByteArray).size ≤ 140737488355328:=Nat.zero_le _
 unfold invS
 repeat' split
 all_goals constructor
 all_goals first | exact ⟨h5,h6⟩ | exact ⟨h6,h5⟩ | exact ⟨z,z⟩ | exact s1 | exact s2 | exact s3 | exact ze

/-! ### paths -/
theorem size_toList (a : ByteArray) : a.toList.length = a.size:=by rw [Go.ByteArray.toList_eq]; rfl
/-- Does a text lie in another one? -/
def withinB (a b : ByteArray) : Bool:=if (a.extract 0 b.size).toList = b.toList ∧ b.size ≤ a.size then (if (a.extract b.size a.size).toList = [] then true else bt (a.extract b.size a.size) 0 == 47) else false
theorem within_f (a b : ByteArray) : path_Within.f a b = some (withinB a b):=by
 unfold path_Within.f strings_CutPrefix.f stringslite_CutPrefix.f stringslite_HasPrefix.f withinB
 by_cases h : b.size ≤ a.size
 ·have h1 : (a.size : Int) ≥ (b.size : Int):=by omega
  have h2 : (b.size : Int) ≤ (a.size : Int):=h1
  have h3 : (0 : Int) ≤ (b.size : Int):=by omega
  by_cases he : (a.extract 0 b.size).toList = b.toList
  ·have he' : ((a.extract 0 b.size).toList == b.toList) = true:=by simpa using he
   simp only [if_pos h1,if_pos h3,Int.toNat_natCast,Option.bind_some,he',if_true,if_pos (And.intro he h)]
   by_cases hz : (a.extract b.size a.size).toList = []
   ·simp only [hz,if_true]
   ·have hp : (0 : Int) < ((a.extract b.size a.size).size : Int):=by
     have:=size_toList (a.extract b.size a.size)
     have : (a.extract b.size a.size).toList.length ≠ 0:=fun e => hz (List.length_eq_zero_iff.1 e)
     omega
    simp only [hz,if_false,if_pos hp]
  ·have he' : ((a.extract 0 b.size).toList == b.toList) = false:=by simpa using he
   have hn : ¬ ((a.extract 0 b.size).toList = b.toList ∧ b.size ≤ a.size):=fun e => he e.1
   simp only [if_pos h1,if_pos h3,Int.toNat_natCast,Option.bind_some,he',Bool.false_eq_true,if_false,if_neg hn]
 ·have h1 : ¬ (a.size : Int) ≥ (b.size : Int):=by omega
  have hn : ¬ ((a.extract 0 b.size).toList = b.toList ∧ b.size ≤ a.size):=fun e => h e.2
  simp only [if_neg h1,Option.bind_some,Bool.false_eq_true,if_false,if_neg hn]
def apartB (a b : ByteArray) : Bool:=if withinB a b = true then false else !withinB b a
theorem apart_f (a b : ByteArray) : path_Apart.f a b = some (apartB a b):=by
 unfold path_Apart.f apartB
 rw [within_f,within_f]
 cases withinB a b <;> rfl
theorem apart_comm (a b : ByteArray) : apartB a b = apartB b a:=by
 unfold apartB
 cases withinB a b <;> cases withinB b a <;> rfl

/-! ### tokens -/
def inB (c : Int) : Bool:=(lines_in.f c).getD false
theorem in_f (c : Int) : lines_in.f c = some (inB c):=by
 have : ∃ r,lines_in.f c = some r:=by
  unfold lines_in.f
  repeat' split
  all_goals exact ⟨_,rfl⟩
 obtain ⟨r,hr⟩:=this
 rw [inB,hr]
 rfl
def tokenB (s : ByteArray) : Bool:=s.data.toList.all (fun b => inB (b.toNat : Int)) && (s.toList != ([] : List UInt8))
theorem token_l (s : ByteArray) (hn : s.size ≤ 140737488355328) : ∀ (d i : Nat),i + d = s.size → Ev (fun k => lines_Token.l0 k s (s.size : Int) (i : Int)) ((s.data.toList.drop i).all (fun b => inB (b.toNat : Int)) && (s.toList != ([] : List UInt8))):=by
 have hsl : s.data.toList.length = s.size:=by rw [Array.length_toList]; rfl
 intro d
 induction d with
 | zero =>
  intro i hi
  refine Ev.step (f:=fun _ => some (s.toList != ([] : List UInt8))) (fun k => ?_) ?_
  ·simp only [lines_Token.l0]
   rw [if_neg (by omega)]
  ·rw [List.drop_of_length_le (by omega)]
   simpa using Ev.now _
 | succ d ih =>
  intro i hi
  have h1 : i < s.data.toList.length:=by omega
  have h2 : i < s.size:=by omega
  have ed : s.data.toList.drop i = s.data.toList[i] :: s.data.toList.drop (i + 1):=List.drop_eq_getElem_cons h1
  have eb : bt s (i : Int) = (s.data.toList[i].toNat : Int):=by
   have:=bt_at s (i : Int) (by rw [Int.toNat_natCast]; exact h2)
   rw [← this]
   simp only [Int.toNat_natCast]
   rfl
  have key:=ih (i + 1) (by omega)
  rw [ed,List.all_cons]
  cases hb : inB (s.data.toList[i].toNat : Int) with
  | true =>
   rw [Bool.true_and]
   refine Ev.step (f:=fun k => lines_Token.l0 k s (s.size : Int) ((i + 1 : Nat) : Int)) (fun k => ?_) key
   simp only [lines_Token.l0]
   rw [if_pos (by omega),if_pos (by omega),if_pos (by omega),eb,in_f,hb,Option.bind_some,if_pos rfl,wrap_1 h2 hn]
  | false =>
   rw [Bool.false_and,Bool.false_and]
   refine Ev.step (f:=fun _ => some false) (fun k => ?_) (Ev.now _)
   simp only [lines_Token.l0]
   rw [if_pos (by omega),if_pos (by omega),if_pos (by omega),eb,in_f,hb,Option.bind_some,if_neg (by simp)]
theorem token (s : ByteArray) (hn : s.size ≤ 140737488355328) : Ev (fun k => lines_Token.f k s) (tokenB s):=by
 have h:=token_l s hn s.size 0 (by omega)
 rw [List.drop_zero] at h
 exact h

/-! ### patches -/
def listedB (x : S24) : Bool:=decide (0 < x.f5.length + x.f6.length) || x.f4 != 0
def kindB (x : S24) : Bool :=
 if x.f0 = 8 then tokenB x.f3 && tokenB x.f2 && (x.f3.toList != x.f2.toList)
 else if x.f0 = 9 then (x.f3.toList != x.f2.toList)
 else if x.f3.toList = ([] : List UInt8) then
  if x.f0 = 10 then rightB x.f2 && apartB x.f1 x.f2
  else if x.f0 = 7 then decide (x.f2.toList = ([] : List UInt8)) && decide (x.f4 ≥ 0) && decide (x.f4 ≤ 1073741824) && linesB x.f5 && linesB x.f6 && decide (0 < x.f5.length + x.f6.length)
  else decide (x.f2.toList = ([] : List UInt8)) && decide (x.f0 ≥ 1) && decide (x.f0 ≤ 6)
 else false
def primB (x : S24) : Bool:=rightB x.f1 && !(listedB x && x.f0 != 7) && kindB x
theorem path_f (s : ByteArray) (h : s.size ≤ 140737488355328) : path_Right.f s = some (rightB s):=if_pos h
theorem kind_j (x : S24) (hx : Okp x) : Ev (fun k => prim_Right.j1 k false x.f0 x.f1 x.f2 x.f3 x.f4 x.f5 x.f6) (kindB x):=by
 have p2:=path_f x.f2 hx.s2
 have t3:=token x.f3 hx.s3
 have t2:=token x.f2 hx.s2
 have k5:=hx.ok.1
 have k6:=hx.ok.2
 unfold kindB
 by_cases h8 : x.f0 = 8
 ·rw [if_pos h8]
  refine Ev.step (f:=fun k => (lines_Token.f k x.f3).bind fun t => if t = true then (lines_Token.f k x.f2).bind fun u => if u = true then some (x.f3.toList != x.f2.toList) else some false else some false) (fun k => ?_) ?_
  ·simp only [prim_Right.j1,if_pos h8,Bool.false_eq_true,if_false]
  ·cases h3 : tokenB x.f3 with
   | false =>
    rw [h3] at t3
    exact Ev.bind t3 (Ev.now _)
   | true =>
    rw [h3] at t3
    refine Ev.bind t3 ?_
    cases h2 : tokenB x.f2 with
    | false =>
     rw [h2] at t2
     exact Ev.bind t2 (Ev.now _)
    | true =>
     rw [h2] at t2
     exact Ev.bind t2 (Ev.now _)
 ·rw [if_neg h8]
  refine Ev.step (f:=fun _ => some _) (fun k => ?_) (Ev.now _)
  simp only [prim_Right.j1,if_neg h8,Bool.false_eq_true,if_false]
  by_cases h9 : x.f0 = 9
  ·rw [if_pos h9,if_pos h9]
  ·rw [if_neg h9,if_neg h9]
   by_cases h3 : x.f3.toList = ([] : List UInt8)
   ·rw [if_pos h3,if_pos h3]
    by_cases h10 : x.f0 = 10
    ·rw [if_pos h10,if_pos h10,p2,Option.bind_some,apart_f]
     cases rightB x.f2 <;> rfl
    ·rw [if_neg h10,if_neg h10]
     by_cases h7 : x.f0 = 7
     ·rw [if_pos h7,if_pos h7,wrap_id (by omega) (by omega)]
      have e : decide ((x.f5.length : Int) + (x.f6.length : Int) > 0) = decide (0 < x.f5.length + x.f6.length):=decide_eq_decide.2 (by omega)
      rw [e]
      by_cases h2 : x.f2.toList = ([] : List UInt8) <;> by_cases ha : x.f4 ≥ 0 <;> by_cases hb : x.f4 ≤ 1073741824 <;> cases h5 : linesB x.f5 <;> cases h6 : linesB x.f6 <;> simp [h2,ha,hb,h5,h6,lines_Right.f]
     ·rw [if_neg h7,if_neg h7]
      by_cases h2 : x.f2.toList = ([] : List UInt8) <;> by_cases ha : x.f0 ≥ 1 <;> simp [h2,ha]
   ·rw [if_neg h3,if_neg h3]
theorem prim_right (x : S24) (hx : Okp x) : Ev (fun k => prim_Right.f k x.f0 x.f1 x.f2 x.f3 x.f4 x.f5 x.f6) (primB x):=by
 have p1:=path_f x.f1 hx.s1
 have kj:=kind_j x hx
 have k5:=hx.ok.1
 have k6:=hx.ok.2
 have yes : Ev (fun k => prim_Right.j1 k true x.f0 x.f1 x.f2 x.f3 x.f4 x.f5 x.f6) false:=Ev.step (f:=fun _ => some false) (fun k => by simp only [prim_Right.j1,if_true]) (Ev.now _)
 have j0 : ∀ b : Bool,Ev (fun k => prim_Right.j0 k b x.f0 x.f1 x.f2 x.f3 x.f4 x.f5 x.f6) (rightB x.f1 && !(b && x.f0 != 7) && kindB x):=by
  intro b
  cases hr : rightB x.f1 with
  | false =>
   refine Ev.step (f:=fun k => prim_Right.j1 k true x.f0 x.f1 x.f2 x.f3 x.f4 x.f5 x.f6) (fun k => ?_) yes
   simp only [prim_Right.j0,p1,hr,Option.bind_some,Bool.false_eq_true,if_false,Bool.not_false]
  | true =>
   cases b with
   | false =>
    refine Ev.step (f:=fun k => prim_Right.j1 k false x.f0 x.f1 x.f2 x.f3 x.f4 x.f5 x.f6) (fun k => ?_) (by simpa using kj)
    simp only [prim_Right.j0,p1,hr,Option.bind_some,Bool.false_eq_true,if_false,if_true]
   | true =>
    cases h7 : (x.f0 != 7) with
    | false =>
     refine Ev.step (f:=fun k => prim_Right.j1 k false x.f0 x.f1 x.f2 x.f3 x.f4 x.f5 x.f6) (fun k => ?_) (by simpa using kj)
     simp only [prim_Right.j0,p1,hr,h7,Option.bind_some,if_true]
    | true =>
     refine Ev.step (f:=fun k => prim_Right.j1 k true x.f0 x.f1 x.f2 x.f3 x.f4 x.f5 x.f6) (fun k => ?_) (by simpa using yes)
     simp only [prim_Right.j0,p1,hr,h7,Option.bind_some,if_true]
 unfold prim_Right.f primB listedB
 by_cases h : 0 < x.f5.length + x.f6.length
 ·have hw : wrap64 ((x.f5.length : Int) + (x.f6.length : Int)) > 0:=by rw [wrap_id (by omega) (by omega)]; omega
  have:=j0 true
  refine Ev.congr (fun k => if_pos hw) ?_
  rw [decide_eq_true h,Bool.true_or]
  exact this
 ·have hw : ¬ wrap64 ((x.f5.length : Int) + (x.f6.length : Int)) > 0:=by rw [wrap_id (by omega) (by omega)]; omega
  refine Ev.congr (fun k => if_neg hw) ?_
  rw [decide_eq_false h,Bool.false_or]
  exact j0 (x.f4 != 0)
end Go.Proofs.YthhohbidjhcjeaaDoor.Pl

namespace Go.Proofs.YthhohbidjhcjeaaDoor.Pl
open Go.RowKit Go.Proofs.YthhohbidjhcjeaaDoorW.PrintWords Go.Proofs.YthhohbidjhcjeaaDoorW.PrintMore Go.Proofs.YthhohbidjhcjeaaDoor.Q Go.Proofs.YthhohbidjhcjeaaDoor.H

theorem dlen (s : ByteArray) : s.data.toList.length = s.size:=by rw [Array.length_toList]; rfl
theorem bt_get (s : ByteArray) (i : Nat) (h : i < s.size) : bt s (i : Int) = ((s.data.toList[i]'(by rw [dlen]; exact h)).toNat : Int):=by
 have:=bt_at s (i : Int) (by rw [Int.toNat_natCast]; exact h)
 rw [← this]
 simp only [Int.toNat_natCast]
 rfl
theorem data_inj {a b : ByteArray} (h : a.data.toList = b.data.toList) : a = b:=by
 obtain ⟨⟨a⟩⟩:=a
 obtain ⟨⟨b⟩⟩:=b
 simpa using h
theorem toList_data (a : ByteArray) : a.toList = a.data.toList:=by rw [Go.ByteArray.toList_eq]
theorem extract_data (s : ByteArray) (i j : Nat) : (s.extract i j).data.toList = (s.data.toList.take j).drop i:=by
 simp only [ByteArray.data_extract,Array.toList_extract,List.extract_eq_take_drop]
 rw [List.take_drop]
 by_cases h : i ≤ j
 ·rw [show i + (j - i) = j by omega]
 ·rw [List.drop_eq_nil_of_le (by simp; omega),List.drop_eq_nil_of_le (by simp; omega)]

/-- .. and each line is no longer than it can be. -/
structure Okq (x : S24) : Prop where
 ok : Okp x
 l5 : ∀ s ∈ x.f5,s.size ≤ 140737488355328
 l6 : ∀ s ∈ x.f6,s.size ≤ 140737488355328
theorem primB_lo {x : S24} (h : primB x = true) : 1 ≤ x.f0 ∧ x.f0 ≤ 10:=by
 unfold primB kindB at h
 simp only [Bool.and_eq_true] at h
 obtain ⟨_,hk⟩:=h
 by_cases h8 : x.f0 = 8
 ·omega
 ·rw [if_neg h8] at hk
  by_cases h9 : x.f0 = 9
  ·omega
  ·rw [if_neg h9] at hk
   by_cases h3 : x.f3.toList = ([] : List UInt8)
   ·rw [if_pos h3] at hk
    by_cases h10 : x.f0 = 10
    ·omega
    ·rw [if_neg h10] at hk
     by_cases h7 : x.f0 = 7
     ·omega
     ·rw [if_neg h7] at hk
      simp only [Bool.and_eq_true,decide_eq_true_eq] at hk
      omega
   ·rw [if_neg h3] at hk
    cases hk
end Go.Proofs.YthhohbidjhcjeaaDoor.Pl
namespace Go.Proofs.YthhohbidjhcjeaaDoor.Od
open Go.ChangeShapes Go.WideShapes Go.ChangeAt Go.RowKit Go.Proofs.YthhohbidjhcjeaaDoorW.PrintWords Go.Proofs.YthhohbidjhcjeaaDoorW.PrintMore Go.Proofs.YthhohbidjhcjeaaDoor.Q Go.Proofs.YthhohbidjhcjeaaDoor.Op Go.Proofs.YthhohbidjhcjeaaDoor.Pl
theorem own : ownKnob Tryd.prog.godebug = none:=by kernel_rfl
theorem laidOut : laidOutB Tryd.prog = true:=by kernel_rfl
/-- What each row of this seat lists. -/
def laidTabs : List (String × DataW Unit) := [("unicode/utf8.acceptRanges", Rows.laid_unicode_utf8_acceptRanges), ("unicode/utf8.first", Rows.laid_unicode_utf8_first)]
theorem o9 : Opens Tryd.prog 9 Kd.string (fun s => s.size ≤ 140737488351232):=opens_string (P:=Tryd.prog) (by kernel_rfl)
theorem o3 : Opens Tryd.prog 3 (Kd.int .i64) (fun n => (Lit.int .i64 n).wf = true):=opens_int (P:=Tryd.prog) (by kernel_rfl)
theorem o22 : Opens Tryd.prog 22 (Kd.slice 9 Kd.string) (fun xs => xs.length ≤ maxLen ∧ xs.length * 16 ≤ 140737488351232 ∧ ∀ x ∈ xs,x.size ≤ 140737488351232):=opens_slice (P:=Tryd.prog) 16 (by kernel_rfl) o9 (by kernel_rfl) (by kernel_rfl)
end Go.Proofs.YthhohbidjhcjeaaDoor.Od
