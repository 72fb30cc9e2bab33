/- Printed by a program of this place out of the translation: what the functions compute, and their contracts. -/
import Derived.Test.YthhohbidjhcjeaaGreatDoorProg
import Derived.Below
import Derived.Deep.Draws
import Derived.Deep.AppendLies
import Derived.Maps.AppendAt
import Derived.OwnWalk
import Derived.Laws.BytesArg
import Derived.Laws.MakeOwn
import Derived.Laws.OwnMore
import Derived.Deep.OwnRows
import Derived.Tactics
import Derived.Lib.ConvBytes
import Derived.Laws.Slices
import Derived.WalkKit
import Derived.KernelRfl
import Derived.RowKit3
import Derived.Deep.LoopGhost
import Derived.Deep.QuietTactic
import Derived.BigQuiet
import Derived.WideLaws
import Derived.Deep.DeepCutAuto
import Derived.Deep.CutBlock
import Derived.Deep.RegionHeld3
import Derived.Laws.Rows
import Derived.Lib.AppendStr
import Derived.ArgAppend
import Derived.Laws.IdiomCopy
import Derived.OrdersHeld
import Derived.Laws.BitsLemmas
import Derived.RowKit
import Derived.Test.YthhohbidjhcjeaaGreatDoorEWd
import Derived.Shelf.Strings.Builder1
import Derived.Shelf.Small.Utf8
import Derived.Shelf.Small.Bits
import Derived.Shelf.Small.Strs
import Derived.Shelf.Small.Wraps
import Derived.Shelf.Strings.BuilderF
import Derived.Shelf.Strings.BuilderK
import Derived.Shelf.Strconv.Itoa0
import Derived.Shelf.Strings.Search1
import Derived.Shelf.Strings.Search2
import Derived.Shelf.Strings.Search3
import Derived.Shelf.LaysM
import Derived.Shelf.Strings.Shaped
import Derived.Shelf.Strings.LastIndex
import Derived.Shelf.GgClosure.StringsIndexFunc
import Derived.Ground.GgwProg
import Derived.Shelf.GgClosure.StringsIndexFuncTop
import Derived.Shelf.GgClosure.StringsRunes
import Derived.Shelf.Strings.Prefix
import Derived.Shelf.Unicode.Decode
import Derived.Shelf.Strings.Runes
import Derived.Shelf.Unicode.DecodeSlow
import Derived.Shelf.Unicode.DecodeAny
import Derived.Shelf.Strings.FuncGrows
import Derived.Shelf.Strings.BuilderCap
import Derived.Shelf.Slices.Turned
import Derived.Shelf.Slices.Equal
import Derived.Shelf.Slices.Empties2
import Derived.RangeFuncNested
import Derived.RangeFuncBound
import Derived.RangeFuncLeaves
namespace Go.Proofs.YthhohbidjhcjeaaGreatDoor.Q
open Go.RowKit Go.Proofs.YthhohbidjhcjeaaGreatDoorW.PrintWords Go.Proofs.YthhohbidjhcjeaaGreatDoorW.PrintLast Go.Proofs.YthhohbidjhcjeaaGreatDoorW.PrintMore
attribute [local go_sem] max2_int min2_int max_two min_two max_three min_three max_four min_four   -- for this text's walks alone
set_option linter.unusedVariables false
set_option linter.unusedSimpArgs false



def errW : Option Int → Value
 | none => .nilIface
 | some c => .iface 0 (.int .i64 c)
theorem errW_none : errW none = .nilIface:=rfl
theorem errW_some (c : Int) : errW (some c) = .iface 0 (.int .i64 c):=rfl

theorem info5 : (Tryz.prog.info? 5).map (fun i => (i.zero,i.size,i.bytes)) = some (some (.int .u8 0),1,1):=by kernel_rfl
theorem info41 : (Tryz.prog.info? 41).map (fun i => (i.zero,i.size,i.bytes)) = some (some (.agg #[(.string ⟨#[]⟩),(.int .i64 0),(.slice none 0 0),(.string ⟨#[]⟩)]),4,64):=by kernel_rfl
-- the values' own types
structure S41 where
 f0 : ByteArray
 f1 : Int
 f2 : (List ByteArray)
 f3 : ByteArray
def z41 : S41:=⟨(⟨#[]⟩ : ByteArray),(0 : Int),([] : List ByteArray),(⟨#[]⟩ : ByteArray)⟩
def k41 : Kd S41:=Kd.iso (Kd.pair Kd.string (Kd.pair (Kd.int .i64) (Kd.pair (Kd.slice 9 Kd.string) Kd.string))) (fun x : S41 => (x.f0,x.f1,x.f2,x.f3))
theorem k41_heap : Kd.Heap k41:=Kd.heap_iso _ (Kd.heap_pair Kd.heap_string (Kd.heap_pair (Kd.heap_int .i64) (Kd.heap_pair (Kd.heap_slice 9 Kd.heap_string) Kd.heap_string)))
theorem k41_open {w : World} {x : S41} {cs : List Value} (h : k41.K w x cs) : ∃ A2 c2,cs = [.string x.f0,.int .i64 x.f1,.slice A2 x.f2.length c2,.string x.f3] ∧ x.f2.length ≤ c2 ∧ Kd.string.C w A2 x.f2.length x.f2:=by
 obtain ⟨_,_,rfl,rfl,⟨_,_,rfl,rfl,⟨_,_,rfl,⟨A2,c2,rfl,l2,g2⟩,rfl⟩⟩⟩:=h
 exact ⟨A2,c2,rfl,l2,g2⟩
theorem k41_mk (w : World) (x : S41) {A2 : Option Addr} {c2 : Nat} (l2 : x.f2.length ≤ c2) (g2 : Kd.string.C w A2 x.f2.length x.f2) : k41.K w x [.string x.f0,.int .i64 x.f1,.slice A2 x.f2.length c2,.string x.f3]:=⟨[.string x.f0],[.int .i64 x.f1,.slice A2 x.f2.length c2,.string x.f3],rfl,rfl,⟨[.int .i64 x.f1],[.slice A2 x.f2.length c2,.string x.f3],rfl,rfl,⟨[.slice A2 x.f2.length c2],[.string x.f3],rfl,⟨A2,c2,rfl,l2,g2⟩,rfl⟩⟩⟩
theorem k41_openF {W : World} {ok : Nat → Prop} {x : S41} {cs : List Value} (h : Kd.FK k41 W ok x cs) : ∃ A2 c2,cs = [.string x.f0,.int .i64 x.f1,.slice A2 x.f2.length c2,.string x.f3] ∧ x.f2.length ≤ c2 ∧ Kd.F Kd.string W ok A2 x.f2.length x.f2:=by
 obtain ⟨A2,c2,rfl,l2,_⟩:=k41_open (Kd.FK_now h)
 exact ⟨A2,c2,rfl,l2,(fun W' hW => by obtain ⟨A2_,c2_,he,l2_,g2_⟩:=k41_open (h W' hW); injection (Option.some.inj (show some (Value.slice A2 x.f2.length c2) = some (Value.slice A2_ x.f2.length c2_) from congrArg (fun l => l[2]?) he)) with ha_ _ _; rw [ha_]; exact g2_)⟩
theorem k41_mkF (W : World) (ok : Nat → Prop) (x : S41) {A2 : Option Addr} {c2 : Nat} (l2 : x.f2.length ≤ c2) (g2 : Kd.F Kd.string W ok A2 x.f2.length x.f2) : Kd.FK k41 W ok x [.string x.f0,.int .i64 x.f1,.slice A2 x.f2.length c2,.string x.f3]:=fun W2 hW => k41_mk W2 x l2 (g2 W2 hW)
def rd_T41 (xs : List S41) (i : Int) : S41:=xs.getD i.toNat z41
theorem at_T41 {w : World} {A : Option Addr} {n : Nat} {xs : List S41} (h : Kd.C k41 w A n xs) (i : Int) (h0 : 0 ≤ i) (h1 : i < n) : ∃ ad A2 c2,A = some ad ∧ w.cell? (ad.add (i.toNat * 4)) = some (.string (rd_T41 xs i).f0) ∧ w.cell? ⟨(ad.add (i.toNat * 4)).block,(ad.add (i.toNat * 4)).off + 1,none⟩ = some (.int .i64 (rd_T41 xs i).f1) ∧ w.cell? ⟨(ad.add (i.toNat * 4)).block,(ad.add (i.toNat * 4)).off + 2,none⟩ = some (.slice A2 (rd_T41 xs i).f2.length c2) ∧ w.cell? ⟨(ad.add (i.toNat * 4)).block,(ad.add (i.toNat * 4)).off + 3,none⟩ = some (.string (rd_T41 xs i).f3) ∧ (rd_T41 xs i).f2.length ≤ c2 ∧ Kd.string.C w A2 (rd_T41 xs i).f2.length (rd_T41 xs i).f2:=by
 obtain ⟨ad,c,e,_,hK,hc0⟩:=Kd.C_get h z41 i h0 h1
 have hc : ∀ j u,c[j]? = some u → w.cell? (ad.add (i.toNat * 4 + j)) = some u:=hc0
 obtain ⟨A2,c2,rfl,l2,g2⟩:=k41_open hK
 exact ⟨ad,A2,c2,e,hc 0 _ rfl,by rw [← add_field _ _ 1 (by omega)]; exact hc 1 _ rfl,by rw [← add_field _ _ 2 (by omega)]; exact hc 2 _ rfl,by rw [← add_field _ _ 3 (by omega)]; exact hc 3 _ rfl,l2,g2⟩

structure S25 where
 f0 : Int
 f1 : ByteArray
 f2 : ByteArray
 f3 : ByteArray
 f4 : Int
 f5 : (List ByteArray)
 f6 : (List ByteArray)
def z25 : S25:=⟨(0 : Int),(⟨#[]⟩ : ByteArray),(⟨#[]⟩ : ByteArray),(⟨#[]⟩ : ByteArray),(0 : Int),([] : List ByteArray),([] : List ByteArray)⟩
def k25 : Kd S25:=Kd.iso (Kd.pair (Kd.int .i64) (Kd.pair Kd.string (Kd.pair Kd.string (Kd.pair Kd.string (Kd.pair (Kd.int .i64) (Kd.pair (Kd.slice 9 Kd.string) (Kd.slice 9 Kd.string))))))) (fun x : S25 => (x.f0,x.f1,x.f2,x.f3,x.f4,x.f5,x.f6))
theorem k25_open {w : World} {x : S25} {cs : List Value} (h : k25.K w x cs) : ∃ A5 c5 A6 c6,cs = [.int .i64 x.f0,.string x.f1,.string x.f2,.string x.f3,.int .i64 x.f4,.slice A5 x.f5.length c5,.slice A6 x.f6.length c6] ∧ x.f5.length ≤ c5 ∧ Kd.string.C w A5 x.f5.length x.f5 ∧ x.f6.length ≤ c6 ∧ Kd.string.C w A6 x.f6.length x.f6:=by
 obtain ⟨_,_,rfl,rfl,⟨_,_,rfl,rfl,⟨_,_,rfl,rfl,⟨_,_,rfl,rfl,⟨_,_,rfl,rfl,⟨_,_,rfl,⟨A5,c5,rfl,l5,g5⟩,⟨A6,c6,rfl,l6,g6⟩⟩⟩⟩⟩⟩⟩:=h
 exact ⟨A5,c5,A6,c6,rfl,l5,g5,l6,g6⟩
theorem k25_mk (w : World) (x : S25) {A5 : Option Addr} {c5 : Nat} (l5 : x.f5.length ≤ c5) (g5 : Kd.string.C w A5 x.f5.length x.f5) {A6 : Option Addr} {c6 : Nat} (l6 : x.f6.length ≤ c6) (g6 : Kd.string.C w A6 x.f6.length x.f6) : k25.K w x [.int .i64 x.f0,.string x.f1,.string x.f2,.string x.f3,.int .i64 x.f4,.slice A5 x.f5.length c5,.slice A6 x.f6.length c6]:=⟨[.int .i64 x.f0],[.string x.f1,.string x.f2,.string x.f3,.int .i64 x.f4,.slice A5 x.f5.length c5,.slice A6 x.f6.length c6],rfl,rfl,⟨[.string x.f1],[.string x.f2,.string x.f3,.int .i64 x.f4,.slice A5 x.f5.length c5,.slice A6 x.f6.length c6],rfl,rfl,⟨[.string x.f2],[.string x.f3,.int .i64 x.f4,.slice A5 x.f5.length c5,.slice A6 x.f6.length c6],rfl,rfl,⟨[.string x.f3],[.int .i64 x.f4,.slice A5 x.f5.length c5,.slice A6 x.f6.length c6],rfl,rfl,⟨[.int .i64 x.f4],[.slice A5 x.f5.length c5,.slice A6 x.f6.length c6],rfl,rfl,⟨[.slice A5 x.f5.length c5],[.slice A6 x.f6.length c6],rfl,⟨A5,c5,rfl,l5,g5⟩,⟨A6,c6,rfl,l6,g6⟩⟩⟩⟩⟩⟩⟩
def rd_T25 (xs : List S25) (i : Int) : S25:=xs.getD i.toNat z25
theorem at_T25 {w : World} {A : Option Addr} {n : Nat} {xs : List S25} (h : Kd.C k25 w A n xs) (i : Int) (h0 : 0 ≤ i) (h1 : i < n) : ∃ ad A5 c5 A6 c6,A = some ad ∧ w.cell? (ad.add (i.toNat * 7)) = some (.int .i64 (rd_T25 xs i).f0) ∧ w.cell? ⟨(ad.add (i.toNat * 7)).block,(ad.add (i.toNat * 7)).off + 1,none⟩ = some (.string (rd_T25 xs i).f1) ∧ w.cell? ⟨(ad.add (i.toNat * 7)).block,(ad.add (i.toNat * 7)).off + 2,none⟩ = some (.string (rd_T25 xs i).f2) ∧ w.cell? ⟨(ad.add (i.toNat * 7)).block,(ad.add (i.toNat * 7)).off + 3,none⟩ = some (.string (rd_T25 xs i).f3) ∧ w.cell? ⟨(ad.add (i.toNat * 7)).block,(ad.add (i.toNat * 7)).off + 4,none⟩ = some (.int .i64 (rd_T25 xs i).f4) ∧ w.cell? ⟨(ad.add (i.toNat * 7)).block,(ad.add (i.toNat * 7)).off + 5,none⟩ = some (.slice A5 (rd_T25 xs i).f5.length c5) ∧ w.cell? ⟨(ad.add (i.toNat * 7)).block,(ad.add (i.toNat * 7)).off + 6,none⟩ = some (.slice A6 (rd_T25 xs i).f6.length c6) ∧ (rd_T25 xs i).f5.length ≤ c5 ∧ Kd.string.C w A5 (rd_T25 xs i).f5.length (rd_T25 xs i).f5 ∧ (rd_T25 xs i).f6.length ≤ c6 ∧ Kd.string.C w A6 (rd_T25 xs i).f6.length (rd_T25 xs i).f6:=by
 obtain ⟨ad,c,e,_,hK,hc0⟩:=Kd.C_get h z25 i h0 h1
 have hc : ∀ j u,c[j]? = some u → w.cell? (ad.add (i.toNat * 7 + j)) = some u:=hc0
 obtain ⟨A5,c5,A6,c6,rfl,l5,g5,l6,g6⟩:=k25_open hK
 exact ⟨ad,A5,c5,A6,c6,e,hc 0 _ rfl,by rw [← add_field _ _ 1 (by omega)]; exact hc 1 _ rfl,by rw [← add_field _ _ 2 (by omega)]; exact hc 2 _ rfl,by rw [← add_field _ _ 3 (by omega)]; exact hc 3 _ rfl,by rw [← add_field _ _ 4 (by omega)]; exact hc 4 _ rfl,by rw [← add_field _ _ 5 (by omega)]; exact hc 5 _ rfl,by rw [← add_field _ _ 6 (by omega)]; exact hc 6 _ rfl,l5,g5,l6,g6⟩

end Go.Proofs.YthhohbidjhcjeaaGreatDoor.Q
namespace Go.Proofs.YthhohbidjhcjeaaGreatDoor.Q
open Go.RowKit Go.Proofs.YthhohbidjhcjeaaGreatDoorW.PrintWords Go.Proofs.YthhohbidjhcjeaaGreatDoorW.PrintLast Go.Proofs.YthhohbidjhcjeaaGreatDoorW.PrintMore
attribute [local go_sem] max2_int min2_int max_two min_two max_three min_three max_four min_four   -- for this text's walks alone
set_option linter.unusedVariables false
set_option linter.unusedSimpArgs false

mutual
def counterpanelaw07_Great.l0 : Nat → List (S41) → Int → Int → Option (Bool)
 | 0,_,_,_ => none
 | k + 1,x0,x3,x4 => if x4 < (x0.length : Int) then (counterpanelaw07_Great.j1 k x0 x3 x4 (decide (x3 < 4000))) else (counterpanelaw07_Great.j1 k x0 x3 x4 false)
def counterpanelaw07_Great.j1 : Nat → List (S41) → Int → Int → Bool → Option (Bool)
 | 0,_,_,_,_ => none
 | k + 1,x0,x3,x4,x16 => if x16 = true then (if 0 ≤ x4 then (if x4 < (x0.length : Int) then (counterpanelaw07_Great.l1 k x0 (wrap64 ((wrap64 ((wrap64 (x3 + (((rd_T41 x0 x4).f2).length : Int))) + (mn (((rd_T41 x0 x4).f3).size : Int) 4000))) + (mn (((rd_T41 x0 x4).f0).size : Int) 4000))) x4 0) else (none)) else (none)) else (some (decide (x3 ≥ 4000)))
def counterpanelaw07_Great.l1 : Nat → List (S41) → Int → Int → Int → Option (Bool)
 | 0,_,_,_,_ => none
 | k + 1,x0,x3,x4,x5 => if 0 ≤ x4 then (if x4 < (x0.length : Int) then (if x5 < (((rd_T41 x0 x4).f2).length : Int) then (if x3 < 4000 then (if 0 ≤ x5 then (counterpanelaw07_Great.l1 k x0 (wrap64 (x3 + (mn ((rdOf ByteArray.empty ((rd_T41 x0 x4).f2) x5).size : Int) 4000))) x4 (wrap64 (x5 + 1))) else (none)) else (counterpanelaw07_Great.l0 k x0 x3 (wrap64 (x4 + 1)))) else (counterpanelaw07_Great.l0 k x0 x3 (wrap64 (x4 + 1)))) else (none)) else (none)
end
def counterpanelaw07_Great.f (k : Nat) (l0 : List (S41)) : Option (Bool):=counterpanelaw07_Great.l0 k l0 (wrap64 (5 * (l0.length : Int))) 0
theorem counterpanelaw07_Great.mono_l : ∀ k,(∀ y0 y1 y2,LeO (counterpanelaw07_Great.l0 k y0 y1 y2) (counterpanelaw07_Great.l0 (k + 1) y0 y1 y2)) ∧ (∀ y0 y1 y2 y3,LeO (counterpanelaw07_Great.j1 k y0 y1 y2 y3) (counterpanelaw07_Great.j1 (k + 1) y0 y1 y2 y3)) ∧ (∀ y0 y1 y2 y3,LeO (counterpanelaw07_Great.l1 k y0 y1 y2 y3) (counterpanelaw07_Great.l1 (k + 1) y0 y1 y2 y3))
 | 0 => ⟨fun _ _ _ r h => by simp [counterpanelaw07_Great.l0] at h,fun _ _ _ _ r h => by simp [counterpanelaw07_Great.j1] at h,fun _ _ _ _ r h => by simp [counterpanelaw07_Great.l1] at h⟩
 | k + 1 => by
  obtain ⟨ih0,ih1,ih2⟩:=counterpanelaw07_Great.mono_l k
  refine ⟨?_,?_,?_⟩
  ·intro y0 y1 y2
   unfold counterpanelaw07_Great.l0
   repeat' first
   | (with_reducible exact ih0 _ _ _)
   | (with_reducible exact ih1 _ _ _ _)
   | (with_reducible exact ih2 _ _ _ _)
   | (with_reducible exact LeO.refl _)
   | (with_reducible exact LeO.none _)
   | (with_reducible refine LeO.ite ?_ ?_)
   | (with_reducible refine LeO.bind ?_ (fun _ => ?_))
   | exact ih0 _ _ _
   | exact ih1 _ _ _ _
   | exact ih2 _ _ _ _
   | exact LeO.none _
   | refine LeO.ite ?_ ?_
   | refine LeO.bind ?_ (fun _ => ?_)
  ·intro y0 y1 y2 y3
   unfold counterpanelaw07_Great.j1
   repeat' first
   | (with_reducible exact ih0 _ _ _)
   | (with_reducible exact ih1 _ _ _ _)
   | (with_reducible exact ih2 _ _ _ _)
   | (with_reducible exact LeO.refl _)
   | (with_reducible exact LeO.none _)
   | (with_reducible refine LeO.ite ?_ ?_)
   | (with_reducible refine LeO.bind ?_ (fun _ => ?_))
   | exact ih0 _ _ _
   | exact ih1 _ _ _ _
   | exact ih2 _ _ _ _
   | exact LeO.none _
   | refine LeO.ite ?_ ?_
   | refine LeO.bind ?_ (fun _ => ?_)
  ·intro y0 y1 y2 y3
   unfold counterpanelaw07_Great.l1
   repeat' first
   | (with_reducible exact ih0 _ _ _)
   | (with_reducible exact ih1 _ _ _ _)
   | (with_reducible exact ih2 _ _ _ _)
   | (with_reducible exact LeO.refl _)
   | (with_reducible exact LeO.none _)
   | (with_reducible refine LeO.ite ?_ ?_)
   | (with_reducible refine LeO.bind ?_ (fun _ => ?_))
   | exact ih0 _ _ _
   | exact ih1 _ _ _ _
   | exact ih2 _ _ _ _
   | exact LeO.none _
   | refine LeO.ite ?_ ?_
   | refine LeO.bind ?_ (fun _ => ?_)
theorem counterpanelaw07_Great.mono : ∀ a0 k,LeO (counterpanelaw07_Great.f k a0) (counterpanelaw07_Great.f (k + 1) a0):=by
 intro a0 k
 obtain ⟨ih0,ih1,ih2⟩:=counterpanelaw07_Great.mono_l k
 unfold counterpanelaw07_Great.f
 repeat' first
   | (with_reducible exact ih0 _ _ _)
   | (with_reducible exact ih1 _ _ _ _)
   | (with_reducible exact ih2 _ _ _ _)
   | (with_reducible exact LeO.refl _)
   | (with_reducible exact LeO.none _)
   | (with_reducible refine LeO.ite ?_ ?_)
   | (with_reducible refine LeO.bind ?_ (fun _ => ?_))
   | exact ih0 _ _ _
   | exact ih1 _ _ _ _
   | exact ih2 _ _ _ _
   | exact LeO.none _
   | refine LeO.ite ?_ ?_
   | refine LeO.bind ?_ (fun _ => ?_)
set_option maxHeartbeats 8000000 in
set_option maxRecDepth 100000 in
theorem counterpanelaw07_Great.calls (k : Nat) (A0 : Option Addr) (c0 : Nat) (l0 : List (S41)) (r : Bool) (w : World) (hr0 : Kd.C k41 w A0 l0.length l0) (hc0 : l0.length ≤ c0) (h : counterpanelaw07_Great.f k l0 = some r) :
  Calls Tryz.prog 21 #[.slice A0 l0.length c0] w fun e w' => e = .returned (.bool r) ∧ Below w.heap.size w w':=by
 have HR0:=Aside0.mk hr0
 have HC0:=Aside0.mk hc0
 clear hr0 hc0
 have HB:=Aside0.mk (Below.refl w.heap.size w)
 have H : (counterpanelaw07_Great.l0 k l0 (wrap64 (5 * (l0.length : Int))) 0) = some r:=h
 clear h
 have H':=Aside0.mk H
 clear H
 go_enter Tryz.func21,Tryz.ntmps21
 go_wp2
 repeat (go_quiet (fail); try go_wp2)
 go_loopg [3,4] k (fun kq v3 v4 w' => ∃ (x3_1 : Int) (x4_1 : Int),v3 = .int .i64 x3_1 ∧ v4 = .int .i64 x4_1 ∧ Aside0 (counterpanelaw07_Great.l0 kq l0 x3_1 x4_1 = some r) ∧ Aside0 (kq ≤ k) ∧ Aside0 (Below w.heap.size w w'))
 case atStart => exact ⟨(wrap64 (5 * (l0.length : Int))),(0),(by first | rfl | (simp; done) | (simp [*]; done)),(by first | rfl | (simp; done) | (simp [*]; done)),H',⟨Nat.le_refl _⟩,⟨by repeat (first | (with_reducible first | exact HB.out | apply below_alloc | apply pw_below_drewN | apply below_drew1) | exact HB.out)⟩⟩
 case round =>
  clear H'
  obtain ⟨x3_1,x4_1,rfl,rfl,HA,HK1,HB⟩:=hrel
  cases gk with
  | zero => exact absurd HA.out (by simp [counterpanelaw07_Great.l0])
  | succ k1 =>
   have H:=HA.out
   clear HA
   simp only [counterpanelaw07_Great.l0] at H
   have HC2:=Aside0.mk H
   clear H
   go_upto_region 3 with (fail)
   repeat (go_quiet (fail); go_upto_region 3 with (fail))
   go_cut [16] (fun v16 wc => ∃ (kq : Nat) (x16_1 : Bool),v16 = .bool x16_1 ∧ Aside0 (counterpanelaw07_Great.j1 kq l0 x3_1 x4_1 x16_1 = some r) ∧ Aside0 (kq ≤ k1) ∧ Aside0 (Below w.heap.size w wc))
   case first =>
    have H:=HC2.out
    clear HC2
    by_cases c3 : x4_1 < (l0.length : Int)
    ·rw [if_pos c3] at H
     have c3b0 : decide (x4_1 < (l0.length : Int)) = true:=decide_eq_true c3
     clear c3
     (first | rw [c3b0] | (simp only [i64_w,i32_w]; rw [c3b0]) | skip)
     have H':=Aside0.mk H
     clear H
     go_wp2
     repeat (go_quiet (fail); try go_wp2)
     go_meet
     case rel => exact ⟨_,(decide (x3_1 < 4000)),(by first | rfl | (simp; done) | (simp [*]; done)),H',⟨by have:=HK1.out; first | omega | exact Nat.le_refl _⟩,⟨by repeat (first | (with_reducible first | exact HB.out | apply below_alloc | apply pw_below_drewN | apply below_drew1) | exact HB.out)⟩⟩
    ·rw [if_neg c3] at H
     have c3b0 : decide (x4_1 < (l0.length : Int)) = false:=decide_eq_false c3
     clear c3
     (first | rw [c3b0] | (simp only [i64_w,i32_w]; rw [c3b0]) | skip)
     have H':=Aside0.mk H
     clear H
     go_wp2
     repeat (go_quiet (fail); try go_wp2)
     go_meet
     case rel => exact ⟨_,(false),(by first | rfl | (simp; done) | (simp [*]; done)),H',⟨by have:=HK1.out; first | omega | exact Nat.le_refl _⟩,⟨by repeat (first | (with_reducible first | exact HB.out | apply below_alloc | apply pw_below_drewN | apply below_drew1) | exact HB.out)⟩⟩
   case rest =>
    clear HC2
    try clear c2
    try clear p2
    try clear c3
    try clear c3b0
    obtain ⟨kq,x16_1,rfl,HA,HJ1,HB⟩:=hcut
    cases kq with
    | zero => exact absurd HA.out (by simp [counterpanelaw07_Great.j1])
    | succ kj1 =>
     have H:=HA.out
     clear HA
     simp only [counterpanelaw07_Great.j1] at H
     by_cases c4 : x16_1 = true
     ·subst c4
      have H1 : (if 0 ≤ x4_1 then (if x4_1 < (l0.length : Int) then (counterpanelaw07_Great.l1 kj1 l0 (wrap64 ((wrap64 ((wrap64 (x3_1 + (((rd_T41 l0 x4_1).f2).length : Int))) + (mn (((rd_T41 l0 x4_1).f3).size : Int) 4000))) + (mn (((rd_T41 l0 x4_1).f0).size : Int) 4000))) x4_1 0) else (none)) else (none)) = some r:=by rw [if_pos rfl] at H; exact H
      clear H
      have H:=H1
      clear H1
      by_cases c5 : 0 ≤ x4_1
      ·rw [if_pos c5] at H
       have c5b0 : decide (0 ≤ x4_1) = true:=decide_eq_true c5
       clear c5
       by_cases c6 : x4_1 < (l0.length : Int)
       ·rw [if_pos c6] at H
        have c6b0 : decide (x4_1 < (l0.length : Int)) = true:=decide_eq_true c6
        clear c6
        obtain ⟨ji7,hji7⟩ : ∃ j_ : Int,(mn (((rd_T41 l0 x4_1).f3).size : Int) 4000) = j_:=⟨_,rfl⟩
        replace H : (counterpanelaw07_Great.l1 kj1 l0 (wrap64 ((wrap64 ((wrap64 (x3_1 + (((rd_T41 l0 x4_1).f2).length : Int))) + (ji7))) + (mn (((rd_T41 l0 x4_1).f0).size : Int) 4000))) x4_1 0) = some r:=by first | (rw [hji7] at H; exact H) | (simp only [hji7] at H ⊢; exact H)
        have hji7_ : (if 4000 < (((rd_T41 l0 x4_1).f3).size : Int) then 4000 else (((rd_T41 l0 x4_1).f3).size : Int)) = ji7:=hji7
        obtain ⟨ji8,hji8⟩ : ∃ j_ : Int,(mn (((rd_T41 l0 x4_1).f0).size : Int) 4000) = j_:=⟨_,rfl⟩
        replace H : (counterpanelaw07_Great.l1 kj1 l0 (wrap64 ((wrap64 ((wrap64 (x3_1 + (((rd_T41 l0 x4_1).f2).length : Int))) + (ji7))) + (ji8))) x4_1 0) = some r:=by first | (rw [hji8] at H; exact H) | (simp only [hji8] at H ⊢; exact H)
        have hji8_ : (if 4000 < (((rd_T41 l0 x4_1).f0).size : Int) then 4000 else (((rd_T41 l0 x4_1).f0).size : Int)) = ji8:=hji8
        have H':=Aside0.mk H
        clear H
        have p182 : 0 ≤ (x4_1 : Int):=of_decide_eq_true (by first | (with_reducible assumption) | assumption)
        have q182 : x4_1 < (l0.length : Int):=of_decide_eq_true (by first | (with_reducible assumption) | assumption)
        obtain ⟨ad182,A182_2,c182_2,e182,hx182_0,hx182_1,hx182_2,hx182_3,hl182_2,hi182_2⟩:=at_T41 HR0.out x4_1 p182 q182
        cases e182
        replace hx182_0:=(HB.out.cell (World.block_lt_of_cell? w _ hx182_0)).trans hx182_0
        replace hx182_1:=(HB.out.cell (World.block_lt_of_cell? w _ hx182_1)).trans hx182_1
        replace hx182_2:=(HB.out.cell (World.block_lt_of_cell? w _ hx182_2)).trans hx182_2
        replace hx182_3:=(HB.out.cell (World.block_lt_of_cell? w _ hx182_3)).trans hx182_3
        have HR182_2:=Aside0.mk hi182_2
        have HC182_2:=Aside0.mk hl182_2
        clear hi182_2 hl182_2
        replace p182:=eq_true p182
        replace q182:=eq_true q182
        have p183 : 0 ≤ (x4_1 : Int):=of_decide_eq_true (by first | (with_reducible assumption) | assumption)
        have q183 : x4_1 < (l0.length : Int):=of_decide_eq_true (by first | (with_reducible assumption) | assumption)
        obtain ⟨ad183,A183_2,c183_2,e183,hx183_0,hx183_1,hx183_2,hx183_3,hl183_2,hi183_2⟩:=at_T41 HR0.out x4_1 p183 q183
        obtain rfl : ad182 = ad183:=(by injection e183)
        replace hx183_0:=(HB.out.cell (World.block_lt_of_cell? w _ hx183_0)).trans hx183_0
        replace hx183_1:=(HB.out.cell (World.block_lt_of_cell? w _ hx183_1)).trans hx183_1
        replace hx183_2:=(HB.out.cell (World.block_lt_of_cell? w _ hx183_2)).trans hx183_2
        replace hx183_3:=(HB.out.cell (World.block_lt_of_cell? w _ hx183_3)).trans hx183_3
        have HR183_2:=Aside0.mk hi183_2
        have HC183_2:=Aside0.mk hl183_2
        clear hi183_2 hl183_2
        replace p183:=eq_true p183
        replace q183:=eq_true q183
        have ea_:=Option.some.inj (hx182_2.symm.trans hx183_2)
        injection ea_ with ea_ en_ ec_
        subst ea_
        subst ec_
        clear en_
        have p184 : 0 ≤ (x4_1 : Int):=of_decide_eq_true (by first | (with_reducible assumption) | assumption)
        have q184 : x4_1 < (l0.length : Int):=of_decide_eq_true (by first | (with_reducible assumption) | assumption)
        obtain ⟨ad184,A184_2,c184_2,e184,hx184_0,hx184_1,hx184_2,hx184_3,hl184_2,hi184_2⟩:=at_T41 HR0.out x4_1 p184 q184
        obtain rfl : ad182 = ad184:=(by injection e184)
        replace hx184_0:=(HB.out.cell (World.block_lt_of_cell? w _ hx184_0)).trans hx184_0
        replace hx184_1:=(HB.out.cell (World.block_lt_of_cell? w _ hx184_1)).trans hx184_1
        replace hx184_2:=(HB.out.cell (World.block_lt_of_cell? w _ hx184_2)).trans hx184_2
        replace hx184_3:=(HB.out.cell (World.block_lt_of_cell? w _ hx184_3)).trans hx184_3
        have HR184_2:=Aside0.mk hi184_2
        have HC184_2:=Aside0.mk hl184_2
        clear hi184_2 hl184_2
        replace p184:=eq_true p184
        replace q184:=eq_true q184
        have ea_:=Option.some.inj (hx182_2.symm.trans hx184_2)
        injection ea_ with ea_ en_ ec_
        subst ea_
        subst ec_
        clear en_
        go_wp2
        repeat (go_quiet (fail); try go_wp2)
        go_loopg [3,5] kj1 (fun kq v3 v5 w' => ∃ (x3_3 : Int) (x5_3 : Int),v3 = .int .i64 x3_3 ∧ v5 = .int .i64 x5_3 ∧ Aside0 (counterpanelaw07_Great.l1 kq l0 x3_3 x4_1 x5_3 = some r) ∧ Aside0 (kq ≤ kj1) ∧ Aside0 (Below w.heap.size w w'))
        case atStart => exact ⟨(wrap64 ((wrap64 ((wrap64 (x3_1 + (((rd_T41 l0 x4_1).f2).length : Int))) + (ji7))) + (ji8))),(0),(by first | rfl | (simp; done) | (simp only [← hji7,← hji8] <;> (first | rfl | simp)) | (simp [*]; done)),(by first | rfl | (simp; done) | (simp [*]; done)),H',⟨Nat.le_refl _⟩,⟨by repeat (first | (with_reducible first | exact HB.out | apply below_alloc | apply pw_below_drewN | apply below_drew1) | exact HB.out)⟩⟩
        case round =>
         clear H'
         try clear c1
         try clear p1
         try clear q1
         try clear hx1
         try clear c2
         try clear p2
         try clear c3
         try clear c3b0
         try clear c4
         try clear c5
         try clear c5b0
         try clear c6
         try clear c6b0
         try clear p6
         try clear hx182_0
         try clear hx182_1
         try clear hx182_2
         try clear hx182_3
         try clear hx183_0
         try clear hx183_1
         try clear hx183_2
         try clear hx183_3
         try clear hx184_0
         try clear hx184_1
         try clear hx184_2
         try clear hx184_3
         try clear p182
         try clear p183
         try clear p184
         try clear p2
         try clear q182
         try clear q183
         try clear q184
         obtain ⟨x3_3,x5_3,rfl,rfl,HA,HK3,HB⟩:=hrel
         cases gk with
         | zero => exact absurd HA.out (by simp [counterpanelaw07_Great.l1])
         | succ k3 =>
          have H:=HA.out
          clear HA
          simp only [counterpanelaw07_Great.l1] at H
          by_cases c9 : 0 ≤ x4_1
          ·rw [if_pos c9] at H
           have c9b0 : decide (0 ≤ x4_1) = true:=decide_eq_true c9
           clear c9
           by_cases c10 : x4_1 < (l0.length : Int)
           ·rw [if_pos c10] at H
            have c10b0 : decide (x4_1 < (l0.length : Int)) = true:=decide_eq_true c10
            clear c10
            by_cases c11 : x5_3 < (((rd_T41 l0 x4_1).f2).length : Int)
            ·rw [if_pos c11] at H
             have c11b0 : decide (x5_3 < (((rd_T41 l0 x4_1).f2).length : Int)) = true:=decide_eq_true c11
             clear c11
             by_cases c12 : x3_3 < 4000
             ·rw [if_pos c12] at H
              have c12b0 : decide (x3_3 < 4000) = true:=decide_eq_true c12
              clear c12
              by_cases c13 : 0 ≤ x5_3
              ·rw [if_pos c13] at H
               have c13b0 : decide (0 ≤ x5_3) = true:=decide_eq_true c13
               clear c13
               obtain ⟨ji14,hji14⟩ : ∃ j_ : Int,(mn ((rdOf ByteArray.empty ((rd_T41 l0 x4_1).f2) x5_3).size : Int) 4000) = j_:=⟨_,rfl⟩
               replace H : (counterpanelaw07_Great.l1 k3 l0 (wrap64 (x3_3 + (ji14))) x4_1 (wrap64 (x5_3 + 1))) = some r:=by first | (rw [hji14] at H; exact H) | (simp only [hji14] at H ⊢; exact H)
               have hji14_ : (if 4000 < ((rdOf ByteArray.empty ((rd_T41 l0 x4_1).f2) x5_3).size : Int) then 4000 else ((rdOf ByteArray.empty ((rd_T41 l0 x4_1).f2) x5_3).size : Int)) = ji14:=hji14
               have H':=Aside0.mk H
               clear H
               have p185 : 0 ≤ (x4_1 : Int):=of_decide_eq_true (by first | (with_reducible assumption) | assumption)
               have q185 : x4_1 < (l0.length : Int):=of_decide_eq_true (by first | (with_reducible assumption) | assumption)
               obtain ⟨ad185,A185_2,c185_2,e185,hx185_0,hx185_1,hx185_2,hx185_3,hl185_2,hi185_2⟩:=at_T41 HR0.out x4_1 p185 q185
               obtain rfl : ad182 = ad185:=(by injection e185)
               replace hx185_0:=(HB.out.cell (World.block_lt_of_cell? w _ hx185_0)).trans hx185_0
               replace hx185_1:=(HB.out.cell (World.block_lt_of_cell? w _ hx185_1)).trans hx185_1
               replace hx185_2:=(HB.out.cell (World.block_lt_of_cell? w _ hx185_2)).trans hx185_2
               replace hx185_3:=(HB.out.cell (World.block_lt_of_cell? w _ hx185_3)).trans hx185_3
               have HR185_2:=Aside0.mk hi185_2
               have HC185_2:=Aside0.mk hl185_2
               clear hi185_2 hl185_2
               replace p185:=eq_true p185
               replace q185:=eq_true q185
               have p186 : 0 ≤ (x4_1 : Int):=of_decide_eq_true (by first | (with_reducible assumption) | assumption)
               have q186 : x4_1 < (l0.length : Int):=of_decide_eq_true (by first | (with_reducible assumption) | assumption)
               obtain ⟨ad186,A186_2,c186_2,e186,hx186_0,hx186_1,hx186_2,hx186_3,hl186_2,hi186_2⟩:=at_T41 HR0.out x4_1 p186 q186
               obtain rfl : ad182 = ad186:=(by injection e186)
               replace hx186_0:=(HB.out.cell (World.block_lt_of_cell? w _ hx186_0)).trans hx186_0
               replace hx186_1:=(HB.out.cell (World.block_lt_of_cell? w _ hx186_1)).trans hx186_1
               replace hx186_2:=(HB.out.cell (World.block_lt_of_cell? w _ hx186_2)).trans hx186_2
               replace hx186_3:=(HB.out.cell (World.block_lt_of_cell? w _ hx186_3)).trans hx186_3
               have HR186_2:=Aside0.mk hi186_2
               have HC186_2:=Aside0.mk hl186_2
               clear hi186_2 hl186_2
               replace p186:=eq_true p186
               replace q186:=eq_true q186
               have ea_:=Option.some.inj (hx185_2.symm.trans hx186_2)
               injection ea_ with ea_ en_ ec_
               subst ea_
               subst ec_
               clear en_
               have p187 : 0 ≤ (x5_3 : Int):=of_decide_eq_true (by first | (with_reducible assumption) | assumption)
               have q187 : x5_3 < (((rd_T41 l0 x4_1).f2).length : Int):=of_decide_eq_true (by first | (with_reducible assumption) | assumption)
               obtain ⟨ad187,e187,hx187_0⟩:=Kd.at_string HR186_2.out x5_3 p187 q187
               cases e187
               replace hx187_0:=(HB.out.cell (World.block_lt_of_cell? w _ hx187_0)).trans hx187_0
               replace p187:=eq_true p187
               replace q187:=eq_true q187
               go_wp2
               repeat (go_quiet (fail); try go_wp2)
               go_roundg k3
               case measure => have:=HK1.out; have:=HJ1.out; have:=HK3.out; omega
               case rel => exact ⟨(wrap64 (x3_3 + (ji14))),(wrap64 (x5_3 + 1)),(by first | rfl | (simp; done) | (simp only [← hji14] <;> (first | rfl | simp)) | (simp [*]; done)),(by first | rfl | (simp; done) | (simp [*]; done)),H',⟨by have:=HK1.out; have:=HJ1.out; have:=HK3.out; omega⟩,⟨by repeat (first | (with_reducible first | exact HB.out | apply below_alloc | apply pw_below_drewN | apply below_drew1) | exact HB.out)⟩⟩
              ·rw [if_neg c13] at H
               exact absurd H (by simp)
             ·rw [if_neg c12] at H
              have c12b0 : decide (x3_3 < 4000) = false:=decide_eq_false c12
              clear c12
              have H':=Aside0.mk H
              clear H
              have p185 : 0 ≤ (x4_1 : Int):=of_decide_eq_true (by first | (with_reducible assumption) | assumption)
              have q185 : x4_1 < (l0.length : Int):=of_decide_eq_true (by first | (with_reducible assumption) | assumption)
              obtain ⟨ad185,A185_2,c185_2,e185,hx185_0,hx185_1,hx185_2,hx185_3,hl185_2,hi185_2⟩:=at_T41 HR0.out x4_1 p185 q185
              obtain rfl : ad182 = ad185:=(by injection e185)
              replace hx185_0:=(HB.out.cell (World.block_lt_of_cell? w _ hx185_0)).trans hx185_0
              replace hx185_1:=(HB.out.cell (World.block_lt_of_cell? w _ hx185_1)).trans hx185_1
              replace hx185_2:=(HB.out.cell (World.block_lt_of_cell? w _ hx185_2)).trans hx185_2
              replace hx185_3:=(HB.out.cell (World.block_lt_of_cell? w _ hx185_3)).trans hx185_3
              have HR185_2:=Aside0.mk hi185_2
              have HC185_2:=Aside0.mk hl185_2
              clear hi185_2 hl185_2
              replace p185:=eq_true p185
              replace q185:=eq_true q185
              go_wp2
              repeat (go_quiet (fail); try go_wp2)
              go_roundg k3
              case measure => have:=HK1.out; have:=HJ1.out; have:=HK3.out; omega
              case rel => exact ⟨(x3_3),(wrap64 (x4_1 + 1)),(by first | rfl | (simp; done) | (simp [*]; done)),(by first | rfl | (simp; done) | (simp [*]; done)),H',⟨by have:=HK1.out; have:=HJ1.out; have:=HK3.out; omega⟩,⟨by repeat (first | (with_reducible first | exact HB.out | apply below_alloc | apply pw_below_drewN | apply below_drew1) | exact HB.out)⟩⟩
            ·rw [if_neg c11] at H
             have c11b0 : decide (x5_3 < (((rd_T41 l0 x4_1).f2).length : Int)) = false:=decide_eq_false c11
             clear c11
             have H':=Aside0.mk H
             clear H
             have p185 : 0 ≤ (x4_1 : Int):=of_decide_eq_true (by first | (with_reducible assumption) | assumption)
             have q185 : x4_1 < (l0.length : Int):=of_decide_eq_true (by first | (with_reducible assumption) | assumption)
             obtain ⟨ad185,A185_2,c185_2,e185,hx185_0,hx185_1,hx185_2,hx185_3,hl185_2,hi185_2⟩:=at_T41 HR0.out x4_1 p185 q185
             obtain rfl : ad182 = ad185:=(by injection e185)
             replace hx185_0:=(HB.out.cell (World.block_lt_of_cell? w _ hx185_0)).trans hx185_0
             replace hx185_1:=(HB.out.cell (World.block_lt_of_cell? w _ hx185_1)).trans hx185_1
             replace hx185_2:=(HB.out.cell (World.block_lt_of_cell? w _ hx185_2)).trans hx185_2
             replace hx185_3:=(HB.out.cell (World.block_lt_of_cell? w _ hx185_3)).trans hx185_3
             have HR185_2:=Aside0.mk hi185_2
             have HC185_2:=Aside0.mk hl185_2
             clear hi185_2 hl185_2
             replace p185:=eq_true p185
             replace q185:=eq_true q185
             go_wp2
             repeat (go_quiet (fail); try go_wp2)
             go_roundg k3
             case measure => have:=HK1.out; have:=HJ1.out; have:=HK3.out; omega
             case rel => exact ⟨(x3_3),(wrap64 (x4_1 + 1)),(by first | rfl | (simp; done) | (simp [*]; done)),(by first | rfl | (simp; done) | (simp [*]; done)),H',⟨by have:=HK1.out; have:=HJ1.out; have:=HK3.out; omega⟩,⟨by repeat (first | (with_reducible first | exact HB.out | apply below_alloc | apply pw_below_drewN | apply below_drew1) | exact HB.out)⟩⟩
           ·rw [if_neg c10] at H
            exact absurd H (by simp)
          ·rw [if_neg c9] at H
           exact absurd H (by simp)
       ·rw [if_neg c6] at H
        exact absurd H (by simp)
      ·rw [if_neg c5] at H
       exact absurd H (by simp)
     ·replace c4:=Bool.eq_false_iff.mpr c4
      subst c4
      have H1 : (some (decide (x3_1 ≥ 4000))) = some r:=by rw [if_neg (show ¬ (false = true) by decide)] at H; exact H
      clear H
      have H:=H1
      clear H1
      obtain rfl:=Option.some.inj H
      go_wp2
      repeat (go_quiet (fail); try go_wp2)
      go_ret
      exact ⟨by first | rfl | (simp [errW_none,errW_some] <;> rfl) | (simp [*,errW_none,errW_some] <;> rfl),by repeat (first | (with_reducible first | exact HB.out | apply below_alloc | apply pw_below_drewN | apply below_drew1) | exact HB.out)⟩

end Go.Proofs.YthhohbidjhcjeaaGreatDoor.Q
namespace Go.Proofs.YthhohbidjhcjeaaGreatDoor.Q
open Go.RowKit Go.Proofs.YthhohbidjhcjeaaGreatDoorW.PrintWords Go.Proofs.YthhohbidjhcjeaaGreatDoorW.PrintLast Go.Proofs.YthhohbidjhcjeaaGreatDoorW.PrintMore
attribute [local go_sem] max2_int min2_int max_two min_two max_three min_three max_four min_four   -- for this text's walks alone
set_option linter.unusedVariables false
set_option linter.unusedSimpArgs false

-- NOT PRINTED: function 24 (counterpaneref08_Apply)

def counterpaneref05_Same.l0 : Nat → List ByteArray → List ByteArray → Int → Option (Bool)
 | 0,_,_,_ => none
 | k + 1,x0,x1,x5 => if x5 < (x0.length : Int) then (if 0 ≤ x5 then (if x5 < (x1.length : Int) then (if (rdOf ByteArray.empty x0 x5).toList = (rdOf ByteArray.empty x1 x5).toList then (counterpaneref05_Same.l0 k x0 x1 (wrap64 (x5 + 1))) else (some false)) else (none)) else (none)) else (some true)
def counterpaneref05_Same.f (k : Nat) (l0 : List ByteArray) (l1 : List ByteArray) : Option (Bool):=if (l0.length : Int) = (l1.length : Int) then (counterpaneref05_Same.l0 k l0 l1 0) else (some false)
theorem counterpaneref05_Same.mono_l : ∀ k,(∀ y0 y1 y2,LeO (counterpaneref05_Same.l0 k y0 y1 y2) (counterpaneref05_Same.l0 (k + 1) y0 y1 y2))
 | 0 => fun _ _ _ r h => by simp [counterpaneref05_Same.l0] at h
 | k + 1 => by
  have ih0:=counterpaneref05_Same.mono_l k
  ·intro y0 y1 y2
   unfold counterpaneref05_Same.l0
   repeat' first
   | (with_reducible exact ih0 _ _ _)
   | (with_reducible exact LeO.refl _)
   | (with_reducible exact LeO.none _)
   | (with_reducible refine LeO.ite ?_ ?_)
   | (with_reducible refine LeO.bind ?_ (fun _ => ?_))
   | exact ih0 _ _ _
   | exact LeO.none _
   | refine LeO.ite ?_ ?_
   | refine LeO.bind ?_ (fun _ => ?_)
theorem counterpaneref05_Same.mono : ∀ a0 a1 k,LeO (counterpaneref05_Same.f k a0 a1) (counterpaneref05_Same.f (k + 1) a0 a1):=by
 intro a0 a1 k
 have ih0:=counterpaneref05_Same.mono_l k
 unfold counterpaneref05_Same.f
 repeat' first
   | (with_reducible exact ih0 _ _ _)
   | (with_reducible exact LeO.refl _)
   | (with_reducible exact LeO.none _)
   | (with_reducible refine LeO.ite ?_ ?_)
   | (with_reducible refine LeO.bind ?_ (fun _ => ?_))
   | exact ih0 _ _ _
   | exact LeO.none _
   | refine LeO.ite ?_ ?_
   | refine LeO.bind ?_ (fun _ => ?_)
set_option maxHeartbeats 8000000 in
set_option maxRecDepth 100000 in
theorem counterpaneref05_Same.calls (k : Nat) (A0 : Option Addr) (c0 : Nat) (l0 : List ByteArray) (A1 : Option Addr) (c1 : Nat) (l1 : List ByteArray) (r : Bool) (w : World) (hr0 : Kd.C Kd.string w A0 l0.length l0) (hc0 : l0.length ≤ c0) (hr1 : Kd.C Kd.string w A1 l1.length l1) (hc1 : l1.length ≤ c1) (h : counterpaneref05_Same.f k l0 l1 = some r) :
  Calls Tryz.prog 72 #[.slice A0 l0.length c0,.slice A1 l1.length c1] w fun e w' => e = .returned (.bool r) ∧ Drawn0 w w':=by
 have HR0:=Aside0.mk hr0
 have HC0:=Aside0.mk hc0
 clear hr0 hc0
 have HR1:=Aside0.mk hr1
 have HC1:=Aside0.mk hc1
 clear hr1 hc1
 have H : (if (l0.length : Int) = (l1.length : Int) then (counterpaneref05_Same.l0 k l0 l1 0) else (some false)) = some r:=h
 clear h
 by_cases c3 : (l0.length : Int) = (l1.length : Int)
 ·rw [if_pos c3] at H
  have c3b0 : ((l0.length : Int) == (l1.length : Int)) = true:=beq_iff_eq.mpr c3
  have c3b1 : ((l0.length : Int) != (l1.length : Int)) = false:=bne_eq_false_iff_eq.mpr c3
  have c3b2 : (l0.length == l1.length) = true:=by first | simpa using c3 | (simp at c3 ⊢; omega)
  clear c3
  have H':=Aside0.mk H
  clear H
  go_enter Tryz.func72,Tryz.ntmps72
  go_wp2
  repeat (go_quiet (fail); try go_wp2)
  go_loopg [5] k (fun kq v5 w' => ∃ (x5_1 : Int),v5 = .int .i64 x5_1 ∧ Aside0 (counterpaneref05_Same.l0 kq l0 l1 x5_1 = some r) ∧ Aside0 (kq ≤ k) ∧ Drawn0 w w')
  case atStart => exact ⟨(0),(by first | rfl | (simp; done) | (simp [*]; done)),H',⟨Nat.le_refl _⟩,by repeat (first | exact Drawn0.refl _ | apply Drawn0.step)⟩
  case round =>
   clear H'
   try clear c1
   try clear p2
   try clear c3
   try clear c3b0
   try clear c3b1
   try clear c3b2
   obtain ⟨x5_1,rfl,HA,HK1,⟨m1,rfl⟩⟩:=hrel
   cases gk with
   | zero => exact absurd HA.out (by simp [counterpaneref05_Same.l0])
   | succ k1 =>
    have H:=HA.out
    clear HA
    simp only [counterpaneref05_Same.l0] at H
    by_cases c4 : x5_1 < (l0.length : Int)
    ·rw [if_pos c4] at H
     have c4b0 : decide (x5_1 < (l0.length : Int)) = true:=decide_eq_true c4
     clear c4
     by_cases c5 : 0 ≤ x5_1
     ·rw [if_pos c5] at H
      have c5b0 : decide (0 ≤ x5_1) = true:=decide_eq_true c5
      clear c5
      by_cases c6 : x5_1 < (l1.length : Int)
      ·rw [if_pos c6] at H
       have c6b0 : decide (x5_1 < (l1.length : Int)) = true:=decide_eq_true c6
       clear c6
       by_cases c7 : (rdOf ByteArray.empty l0 x5_1).toList = (rdOf ByteArray.empty l1 x5_1).toList
       ·rw [if_pos c7] at H
        have c7b0 : ((rdOf ByteArray.empty l0 x5_1).toList == (rdOf ByteArray.empty l1 x5_1).toList) = true:=beq_iff_eq.mpr c7
        have c7b1 : ((rdOf ByteArray.empty l0 x5_1).toList != (rdOf ByteArray.empty l1 x5_1).toList) = false:=bne_eq_false_iff_eq.mpr c7
        clear c7
        have H':=Aside0.mk H
        clear H
        have p392 : 0 ≤ (x5_1 : Int):=of_decide_eq_true (by first | (with_reducible assumption) | assumption)
        have q392 : x5_1 < (l0.length : Int):=of_decide_eq_true (by first | (with_reducible assumption) | assumption)
        obtain ⟨ad392,e392,hx392_0⟩:=Kd.at_string HR0.out x5_1 p392 q392
        cases e392
        replace p392:=eq_true p392
        replace q392:=eq_true q392
        have p393 : 0 ≤ (x5_1 : Int):=of_decide_eq_true (by first | (with_reducible assumption) | assumption)
        have q393 : x5_1 < (l1.length : Int):=of_decide_eq_true (by first | (with_reducible assumption) | assumption)
        obtain ⟨ad393,e393,hx393_0⟩:=Kd.at_string HR1.out x5_1 p393 q393
        cases e393
        replace p393:=eq_true p393
        replace q393:=eq_true q393
        go_wp2
        repeat (go_quiet (fail); try go_wp2)
        go_roundg k1
        case measure => have:=HK1.out; omega
        case rel => exact ⟨(wrap64 (x5_1 + 1)),(by first | rfl | (simp; done) | (simp [*]; done)),H',⟨by have:=HK1.out; omega⟩,by repeat (first | exact Drawn0.refl _ | apply Drawn0.step)⟩
       ·rw [if_neg c7] at H
        have c7b0 : ((rdOf ByteArray.empty l0 x5_1).toList == (rdOf ByteArray.empty l1 x5_1).toList) = false:=beq_eq_false_iff_ne.mpr c7
        have c7b1 : ((rdOf ByteArray.empty l0 x5_1).toList != (rdOf ByteArray.empty l1 x5_1).toList) = true:=bne_iff_ne.mpr c7
        obtain rfl:=Option.some.inj H
        have p392 : 0 ≤ (x5_1 : Int):=of_decide_eq_true (by first | (with_reducible assumption) | assumption)
        have q392 : x5_1 < (l0.length : Int):=of_decide_eq_true (by first | (with_reducible assumption) | assumption)
        obtain ⟨ad392,e392,hx392_0⟩:=Kd.at_string HR0.out x5_1 p392 q392
        cases e392
        replace p392:=eq_true p392
        replace q392:=eq_true q392
        have p393 : 0 ≤ (x5_1 : Int):=of_decide_eq_true (by first | (with_reducible assumption) | assumption)
        have q393 : x5_1 < (l1.length : Int):=of_decide_eq_true (by first | (with_reducible assumption) | assumption)
        obtain ⟨ad393,e393,hx393_0⟩:=Kd.at_string HR1.out x5_1 p393 q393
        cases e393
        replace p393:=eq_true p393
        replace q393:=eq_true q393
        go_wp2
        repeat (go_quiet (fail); try go_wp2)
        go_ret
        exact ⟨by first | rfl | (simp; done) | (simp [*]; done),by repeat (first | exact Drawn0.refl _ | apply Drawn0.step)⟩
      ·rw [if_neg c6] at H
       exact absurd H (by simp)
     ·rw [if_neg c5] at H
      exact absurd H (by simp)
    ·rw [if_neg c4] at H
     have c4b0 : decide (x5_1 < (l0.length : Int)) = false:=decide_eq_false c4
     clear c4
     obtain rfl:=Option.some.inj H
     go_wp2
     repeat (go_quiet (fail); try go_wp2)
     go_ret
     exact ⟨by first | rfl | (simp; done) | (simp [*]; done),by repeat (first | exact Drawn0.refl _ | apply Drawn0.step)⟩
 ·rw [if_neg c3] at H
  have c3b0 : ((l0.length : Int) == (l1.length : Int)) = false:=beq_eq_false_iff_ne.mpr c3
  have c3b1 : ((l0.length : Int) != (l1.length : Int)) = true:=bne_iff_ne.mpr c3
  have c3b2 : (l0.length == l1.length) = false:=by first | simpa using c3 | (simp at c3 ⊢; omega)
  obtain rfl:=Option.some.inj H
  go_enter Tryz.func72,Tryz.ntmps72
  go_wp2
  repeat (go_quiet (fail); try go_wp2)
  go_ret
  exact ⟨by first | rfl | (simp; done) | (simp [*]; done),by repeat (first | exact Drawn0.refl _ | apply Drawn0.step)⟩

end Go.Proofs.YthhohbidjhcjeaaGreatDoor.Q
namespace Go.Proofs.YthhohbidjhcjeaaGreatDoor.Q
open Go.RowKit Go.Proofs.YthhohbidjhcjeaaGreatDoorW.PrintWords Go.Proofs.YthhohbidjhcjeaaGreatDoorW.PrintLast Go.Proofs.YthhohbidjhcjeaaGreatDoorW.PrintMore
attribute [local go_sem] max2_int min2_int max_two min_two max_three min_three max_four min_four   -- for this text's walks alone
set_option linter.unusedVariables false
set_option linter.unusedSimpArgs false

-- NOT PRINTED: function 144 (strings_splitSeq)

-- NOT PRINTED: function 111 (strings_SplitSeq)

-- NOT PRINTED: function 191 (strings_indexFunc)

-- NOT PRINTED: function 176 (strings_IndexFunc)

-- NOT PRINTED: function 145 (strings_ContainsFunc)

-- NOT PRINTED: function 112 (path_part)

def lines_in.f (a0 : Int) : Option (Bool):=if a0 = 95 then (some true) else (if 97 ≤ (Go.bits .or .u8 a0 32) then (if (Go.bits .or .u8 a0 32) ≤ 122 then (some true) else (if 48 ≤ a0 then (some (decide (a0 ≤ 57))) else (some false))) else (if 48 ≤ a0 then (some (decide (a0 ≤ 57))) else (some false)))
set_option maxHeartbeats 8000000 in
set_option maxRecDepth 100000 in
theorem lines_in.calls (a0 : Int) (r : Bool) (w : World) (h : lines_in.f a0 = some r) :
  Calls Tryz.prog 113 #[.int .u8 a0] w fun e w' => e = .returned (.bool r) ∧ Drawn0 w w':=by
 have H : (if a0 = 95 then (some true) else (if 97 ≤ (Go.bits .or .u8 a0 32) then (if (Go.bits .or .u8 a0 32) ≤ 122 then (some true) else (if 48 ≤ a0 then (some (decide (a0 ≤ 57))) else (some false))) else (if 48 ≤ a0 then (some (decide (a0 ≤ 57))) else (some false)))) = some r:=h
 clear h
 by_cases c2 : a0 = 95
 ·rw [if_pos c2] at H
  have c2b0 : (a0 == 95) = true:=beq_iff_eq.mpr c2
  have c2b1 : (a0 != 95) = false:=bne_eq_false_iff_eq.mpr c2
  clear c2
  obtain rfl:=Option.some.inj H
  go_enter Tryz.func113,Tryz.ntmps113
  go_wp2
  go_ret
  exact ⟨by first | rfl | (simp; done) | (simp [*]; done) | (simp [show ∀ l : List UInt8,(l != []) = !l.isEmpty from fun l => by cases l <;> rfl]; done),by repeat (first | exact Drawn0.refl _ | apply Drawn0.step)⟩
 ·rw [if_neg c2] at H
  have c2b0 : (a0 == 95) = false:=beq_eq_false_iff_ne.mpr c2
  have c2b1 : (a0 != 95) = true:=bne_iff_ne.mpr c2
  by_cases c3 : 97 ≤ (Go.bits .or .u8 a0 32)
  ·rw [if_pos c3] at H
   have c3b0 : decide (97 ≤ (Go.bits .or .u8 a0 32)) = true:=decide_eq_true c3
   clear c3
   by_cases c4 : (Go.bits .or .u8 a0 32) ≤ 122
   ·rw [if_pos c4] at H
    have c4b0 : decide ((Go.bits .or .u8 a0 32) ≤ 122) = true:=decide_eq_true c4
    clear c4
    obtain rfl:=Option.some.inj H
    go_enter Tryz.func113,Tryz.ntmps113
    go_wp2
    go_ret
    exact ⟨by first | rfl | (simp; done) | (simp [*]; done) | (simp [show ∀ l : List UInt8,(l != []) = !l.isEmpty from fun l => by cases l <;> rfl]; done),by repeat (first | exact Drawn0.refl _ | apply Drawn0.step)⟩
   ·rw [if_neg c4] at H
    have c4b0 : decide ((Go.bits .or .u8 a0 32) ≤ 122) = false:=decide_eq_false c4
    clear c4
    by_cases c5 : 48 ≤ a0
    ·rw [if_pos c5] at H
     have c5b0 : decide (48 ≤ a0) = true:=decide_eq_true c5
     clear c5
     obtain rfl:=Option.some.inj H
     go_enter Tryz.func113,Tryz.ntmps113
     go_wp2
     go_ret
     exact ⟨by first | rfl | (simp; done) | (simp [*]; done) | (simp [show ∀ l : List UInt8,(l != []) = !l.isEmpty from fun l => by cases l <;> rfl]; done),by repeat (first | exact Drawn0.refl _ | apply Drawn0.step)⟩
    ·rw [if_neg c5] at H
     have c5b0 : decide (48 ≤ a0) = false:=decide_eq_false c5
     clear c5
     obtain rfl:=Option.some.inj H
     go_enter Tryz.func113,Tryz.ntmps113
     go_wp2
     go_ret
     exact ⟨by first | rfl | (simp; done) | (simp [*]; done) | (simp [show ∀ l : List UInt8,(l != []) = !l.isEmpty from fun l => by cases l <;> rfl]; done),by repeat (first | exact Drawn0.refl _ | apply Drawn0.step)⟩
  ·rw [if_neg c3] at H
   have c3b0 : decide (97 ≤ (Go.bits .or .u8 a0 32)) = false:=decide_eq_false c3
   clear c3
   by_cases c6 : 48 ≤ a0
   ·rw [if_pos c6] at H
    have c6b0 : decide (48 ≤ a0) = true:=decide_eq_true c6
    clear c6
    obtain rfl:=Option.some.inj H
    go_enter Tryz.func113,Tryz.ntmps113
    go_wp2
    go_ret
    exact ⟨by first | rfl | (simp; done) | (simp [*]; done) | (simp [show ∀ l : List UInt8,(l != []) = !l.isEmpty from fun l => by cases l <;> rfl]; done),by repeat (first | exact Drawn0.refl _ | apply Drawn0.step)⟩
   ·rw [if_neg c6] at H
    have c6b0 : decide (48 ≤ a0) = false:=decide_eq_false c6
    clear c6
    obtain rfl:=Option.some.inj H
    go_enter Tryz.func113,Tryz.ntmps113
    go_wp2
    go_ret
    exact ⟨by first | rfl | (simp; done) | (simp [*]; done) | (simp [show ∀ l : List UInt8,(l != []) = !l.isEmpty from fun l => by cases l <;> rfl]; done),by repeat (first | exact Drawn0.refl _ | apply Drawn0.step)⟩

def lines_Token.l0 : Nat → ByteArray → Int → Int → Option (Bool)
 | 0,_,_,_ => none
 | k + 1,x0,x5,x6 => if x6 < x5 then (if 0 ≤ x6 then (if x6 < (x0.size : Int) then ((lines_in.f (bt x0 x6)).bind fun t101 => (if t101 = true then (lines_Token.l0 k x0 x5 (wrap64 (x6 + 1))) else (some false))) else (none)) else (none)) else (some (x0.toList != ([] : List UInt8)))
def lines_Token.f (k : Nat) (a0 : ByteArray) : Option (Bool):=lines_Token.l0 k a0 (a0.size : Int) 0
theorem lines_Token.mono_l : ∀ k,(∀ y0 y1 y2,LeO (lines_Token.l0 k y0 y1 y2) (lines_Token.l0 (k + 1) y0 y1 y2))
 | 0 => fun _ _ _ r h => by simp [lines_Token.l0] at h
 | k + 1 => by
  have ih0:=lines_Token.mono_l k
  ·intro y0 y1 y2
   unfold lines_Token.l0
   repeat' first
   | (with_reducible exact ih0 _ _ _)
   | (with_reducible exact LeO.refl _)
   | (with_reducible exact LeO.none _)
   | (with_reducible refine LeO.ite ?_ ?_)
   | (with_reducible refine LeO.bind ?_ (fun _ => ?_))
   | exact ih0 _ _ _
   | exact LeO.none _
   | refine LeO.ite ?_ ?_
   | refine LeO.bind ?_ (fun _ => ?_)
theorem lines_Token.mono : ∀ a0 k,LeO (lines_Token.f k a0) (lines_Token.f (k + 1) a0):=by
 intro a0 k
 have ih0:=lines_Token.mono_l k
 unfold lines_Token.f
 repeat' first
   | (with_reducible exact ih0 _ _ _)
   | (with_reducible exact LeO.refl _)
   | (with_reducible exact LeO.none _)
   | (with_reducible refine LeO.ite ?_ ?_)
   | (with_reducible refine LeO.bind ?_ (fun _ => ?_))
   | exact ih0 _ _ _
   | exact LeO.none _
   | refine LeO.ite ?_ ?_
   | refine LeO.bind ?_ (fun _ => ?_)
set_option maxHeartbeats 8000000 in
set_option maxRecDepth 100000 in
theorem lines_Token.calls (k : Nat) (a0 : ByteArray) (r : Bool) (w : World) (h : lines_Token.f k a0 = some r) :
  Calls Tryz.prog 67 #[.string a0] w fun e w' => e = .returned (.bool r) ∧ Drawn0 w w':=by
 have H : (lines_Token.l0 k a0 (a0.size : Int) 0) = some r:=h
 clear h
 have H':=Aside0.mk H
 clear H
 go_enter Tryz.func67,Tryz.ntmps67
 go_wp2
 go_loopg [6] k (fun kq v6 w' => ∃ (x6_1 : Int),v6 = .int .i64 x6_1 ∧ Aside0 (lines_Token.l0 kq a0 (a0.size : Int) x6_1 = some r) ∧ Aside0 (kq ≤ k) ∧ Drawn0 w w')
 case atStart => exact ⟨(0),(by first | rfl | (simp; done) | (simp [*]; done)),H',⟨Nat.le_refl _⟩,by repeat (first | exact Drawn0.refl _ | apply Drawn0.step)⟩
 case round =>
  clear H'
  obtain ⟨x6_1,rfl,HA,HK1,⟨m1,rfl⟩⟩:=hrel
  cases gk with
  | zero => exact absurd HA.out (by simp [lines_Token.l0])
  | succ k1 =>
   have H:=HA.out
   clear HA
   simp only [lines_Token.l0] at H
   by_cases c2 : x6_1 < (a0.size : Int)
   ·rw [if_pos c2] at H
    have c2b0 : decide (x6_1 < (a0.size : Int)) = true:=decide_eq_true c2
    clear c2
    by_cases c3 : 0 ≤ x6_1
    ·rw [if_pos c3] at H
     have c3b0 : decide (0 ≤ x6_1) = true:=decide_eq_true c3
     clear c3
     by_cases c4 : x6_1 < (a0.size : Int)
     ·rw [if_pos c4] at H
      have c4b0 : decide (x6_1 < (a0.size : Int)) = true:=decide_eq_true c4
      clear c4
      replace H:=Option.bind_eq_some_iff.mp H
      obtain ⟨t101,A60,H⟩:=H
      replace H : (if t101 = true then (lines_Token.l0 k1 a0 (a0.size : Int) (wrap64 (x6_1 + 1))) else (some false)) = some r:=H
      have A6:=Aside0.mk A60
      clear A60
      by_cases c7 : t101 = true
      ·subst c7
       have H1 : (lines_Token.l0 k1 a0 (a0.size : Int) (wrap64 (x6_1 + 1))) = some r:=by rw [if_pos rfl] at H; exact H
       clear H
       have H:=H1
       clear H1
       have H':=Aside0.mk H
       clear H
       have p5 : 0 ≤ (x6_1 : Int):=of_decide_eq_true (by first | (with_reducible assumption) | assumption)
       have q5 : x6_1 < (a0.size : Int):=of_decide_eq_true (by first | (with_reducible assumption) | assumption)
       have hx5:=bt_at a0 x6_1
       replace p5:=eq_true p5
       replace q5:=eq_true q5
       go_wp2_with (first | ((with_reducible refine gate_callee (f:=113) rfl ?_); refine goesL_ (some 12) rfl rfl Tryz.func113 (by kernel_rfl) rfl #[.int .u8 (bt a0 x6_1)] rfl (by (try simp only [List.map_toArray,List.map_cons,List.map_nil]); first | done | rfl | (simp only [List.length_drop,List.length_take]; rfl)) ?_; (with_reducible refine (lines_in.calls (bt a0 x6_1) true _ A6.out).mono ?_); rintro e w' ⟨rfl,⟨nd,rfl⟩⟩; refine ⟨_,rfl,?_⟩))
       go_roundg k1
       case measure => have:=HK1.out; omega
       case rel => exact ⟨(wrap64 (x6_1 + 1)),(by first | rfl | (simp; done) | (simp [*]; done)),H',⟨by have:=HK1.out; omega⟩,by repeat (first | exact Drawn0.refl _ | apply Drawn0.step)⟩
      ·replace c7:=Bool.eq_false_iff.mpr c7
       subst c7
       have H1 : (some false) = some r:=by rw [if_neg (show ¬ (false = true) by decide)] at H; exact H
       clear H
       have H:=H1
       clear H1
       obtain rfl:=Option.some.inj H
       have p5 : 0 ≤ (x6_1 : Int):=of_decide_eq_true (by first | (with_reducible assumption) | assumption)
       have q5 : x6_1 < (a0.size : Int):=of_decide_eq_true (by first | (with_reducible assumption) | assumption)
       have hx5:=bt_at a0 x6_1
       replace p5:=eq_true p5
       replace q5:=eq_true q5
       go_wp2_with (first | ((with_reducible refine gate_callee (f:=113) rfl ?_); refine goesL_ (some 12) rfl rfl Tryz.func113 (by kernel_rfl) rfl #[.int .u8 (bt a0 x6_1)] rfl (by (try simp only [List.map_toArray,List.map_cons,List.map_nil]); first | done | rfl | (simp only [List.length_drop,List.length_take]; rfl)) ?_; (with_reducible refine (lines_in.calls (bt a0 x6_1) false _ A6.out).mono ?_); rintro e w' ⟨rfl,⟨nd,rfl⟩⟩; refine ⟨_,rfl,?_⟩))
       go_ret
       exact ⟨by first | rfl | (simp; done) | (simp [*]; done) | (simp [show ∀ l : List UInt8,(l != []) = !l.isEmpty from fun l => by cases l <;> rfl]; done),by repeat (first | exact Drawn0.refl _ | apply Drawn0.step)⟩
     ·rw [if_neg c4] at H
      exact absurd H (by simp)
    ·rw [if_neg c3] at H
     exact absurd H (by simp)
   ·rw [if_neg c2] at H
    have c2b0 : decide (x6_1 < (a0.size : Int)) = false:=decide_eq_false c2
    clear c2
    obtain rfl:=Option.some.inj H
    go_wp2
    go_ret
    exact ⟨by first | rfl | (simp; done) | (simp [*]; done) | (simp [show ∀ l : List UInt8,(l != []) = !l.isEmpty from fun l => by cases l <;> rfl]; done),by repeat (first | exact Drawn0.refl _ | apply Drawn0.step)⟩

def stringslite_HasPrefix.f (a0 : ByteArray) (a1 : ByteArray) : Option (Bool):=if (a0.size : Int) ≥ (a1.size : Int) then (if 0 ≤ (a1.size : Int) then (if (a1.size : Int) ≤ (a0.size : Int) then (some ((a0.extract 0 ((a1.size : Int) : Int).toNat).toList == a1.toList)) else (none)) else (none)) else (some false)
set_option maxHeartbeats 8000000 in
set_option maxRecDepth 100000 in
theorem stringslite_HasPrefix.calls (a0 : ByteArray) (a1 : ByteArray) (r : Bool) (w : World) (h : stringslite_HasPrefix.f a0 a1 = some r) :
  Calls Tryz.prog 182 #[.string a0,.string a1] w fun e w' => e = .returned (.bool r) ∧ Drawn0 w w':=by
 have H : (if (a0.size : Int) ≥ (a1.size : Int) then (if 0 ≤ (a1.size : Int) then (if (a1.size : Int) ≤ (a0.size : Int) then (some ((a0.extract 0 ((a1.size : Int) : Int).toNat).toList == a1.toList)) else (none)) else (none)) else (some false)) = some r:=h
 clear h
 by_cases c3 : (a0.size : Int) ≥ (a1.size : Int)
 ·rw [if_pos c3] at H
  have c3b0 : decide ((a1.size : Int) ≤ (a0.size : Int)) = true:=decide_eq_true c3
  have c3b1 : decide (a1.size ≤ a0.size) = true:=decide_eq_true (Int.ofNat_le.mp c3)
  clear c3
  by_cases c4 : 0 ≤ (a1.size : Int)
  ·rw [if_pos c4] at H
   have c4b0:=eq_true c4
   have c4b1 : decide (0 ≤ (a1.size : Int)) = true:=decide_eq_true c4
   clear c4
   by_cases c5 : (a1.size : Int) ≤ (a0.size : Int)
   ·rw [if_pos c5] at H
    have c5b0:=eq_true c5
    have c5b1 : decide ((a1.size : Int) ≤ (a0.size : Int)) = true:=decide_eq_true c5
    clear c5
    obtain rfl:=Option.some.inj H
    go_enter Tryz.func182,Tryz.ntmps182
    go_wp2
    go_ret
    exact ⟨by first | rfl | (simp; done) | (simp [*]; done) | (simp [show ∀ l : List UInt8,(l != []) = !l.isEmpty from fun l => by cases l <;> rfl]; done),by repeat (first | exact Drawn0.refl _ | apply Drawn0.step)⟩
   ·rw [if_neg c5] at H
    exact absurd H (by simp)
  ·rw [if_neg c4] at H
   exact absurd H (by simp)
 ·rw [if_neg c3] at H
  have c3b0 : decide ((a1.size : Int) ≤ (a0.size : Int)) = false:=decide_eq_false c3
  have c3b1 : decide (a1.size ≤ a0.size) = false:=decide_eq_false (fun h => c3 (Int.ofNat_le.mpr h))
  clear c3
  obtain rfl:=Option.some.inj H
  go_enter Tryz.func182,Tryz.ntmps182
  go_wp2
  go_ret
  exact ⟨by first | rfl | (simp; done) | (simp [*]; done) | (simp [show ∀ l : List UInt8,(l != []) = !l.isEmpty from fun l => by cases l <;> rfl]; done),by repeat (first | exact Drawn0.refl _ | apply Drawn0.step)⟩

def stringslite_CutPrefix.f (a0 : ByteArray) (a1 : ByteArray) : Option (ByteArray × Bool):=(stringslite_HasPrefix.f a0 a1).bind fun t102 => (if t102 = true then (if 0 ≤ (a1.size : Int) then (if (a1.size : Int) ≤ (a0.size : Int) then (some (a0.extract ((a1.size : Int) : Int).toNat a0.size,true)) else (none)) else (none)) else (some (a0,false)))
set_option maxHeartbeats 8000000 in
set_option maxRecDepth 100000 in
theorem stringslite_CutPrefix.calls (a0 : ByteArray) (a1 : ByteArray) (r1 : ByteArray) (r2 : Bool) (w : World) (h : stringslite_CutPrefix.f a0 a1 = some (r1,r2)) :
  Calls Tryz.prog 159 #[.string a0,.string a1] w fun e w' => e = .returned (.tuple #[.string r1,.bool r2]) ∧ Drawn0 w w':=by
 have H : ((stringslite_HasPrefix.f a0 a1).bind fun t102 => (if t102 = true then (if 0 ≤ (a1.size : Int) then (if (a1.size : Int) ≤ (a0.size : Int) then (some (a0.extract ((a1.size : Int) : Int).toNat a0.size,true)) else (none)) else (none)) else (some (a0,false)))) = some (r1,r2):=h
 clear h
 replace H:=Option.bind_eq_some_iff.mp H
 obtain ⟨t102,A30,H⟩:=H
 replace H : (if t102 = true then (if 0 ≤ (a1.size : Int) then (if (a1.size : Int) ≤ (a0.size : Int) then (some (a0.extract ((a1.size : Int) : Int).toNat a0.size,true)) else (none)) else (none)) else (some (a0,false))) = some (r1,r2):=H
 have A3:=Aside0.mk A30
 clear A30
 by_cases c4 : t102 = true
 ·subst c4
  have H1 : (if 0 ≤ (a1.size : Int) then (if (a1.size : Int) ≤ (a0.size : Int) then (some (a0.extract ((a1.size : Int) : Int).toNat a0.size,true)) else (none)) else (none)) = some (r1,r2):=by rw [if_pos rfl] at H; exact H
  clear H
  have H:=H1
  clear H1
  by_cases c5 : 0 ≤ (a1.size : Int)
  ·rw [if_pos c5] at H
   have c5b0:=eq_true c5
   have c5b1 : decide (0 ≤ (a1.size : Int)) = true:=decide_eq_true c5
   clear c5
   by_cases c6 : (a1.size : Int) ≤ (a0.size : Int)
   ·rw [if_pos c6] at H
    have c6b0:=eq_true c6
    have c6b1 : decide ((a1.size : Int) ≤ (a0.size : Int)) = true:=decide_eq_true c6
    clear c6
    simp only [Option.some.injEq,Prod.mk.injEq] at H
    obtain ⟨rfl,rfl⟩:=H
    go_enter Tryz.func159,Tryz.ntmps159
    go_wp2_with (first | ((with_reducible refine gate_callee (f:=182) rfl ?_); refine goesL_ (some 8) rfl rfl Tryz.func182 (by kernel_rfl) rfl #[.string a0,.string a1] rfl (by (try simp only [List.map_toArray,List.map_cons,List.map_nil]); first | done | rfl | (simp only [List.length_drop,List.length_take]; rfl)) ?_; (with_reducible refine (stringslite_HasPrefix.calls a0 a1 true _ A3.out).mono ?_); rintro e w' ⟨rfl,⟨nd,rfl⟩⟩; refine ⟨_,rfl,?_⟩))
    go_ret2
    exact ⟨by first | rfl | (simp; done) | (simp [*]; done) | (simp [show ∀ l : List UInt8,(l != []) = !l.isEmpty from fun l => by cases l <;> rfl]; done),by repeat (first | exact Drawn0.refl _ | apply Drawn0.step)⟩
   ·rw [if_neg c6] at H
    exact absurd H (by simp)
  ·rw [if_neg c5] at H
   exact absurd H (by simp)
 ·replace c4:=Bool.eq_false_iff.mpr c4
  subst c4
  have H1 : (some (a0,false)) = some (r1,r2):=by rw [if_neg (show ¬ (false = true) by decide)] at H; exact H
  clear H
  have H:=H1
  clear H1
  simp only [Option.some.injEq,Prod.mk.injEq] at H
  obtain ⟨rfl,rfl⟩:=H
  go_enter Tryz.func159,Tryz.ntmps159
  go_wp2_with (first | ((with_reducible refine gate_callee (f:=182) rfl ?_); refine goesL_ (some 8) rfl rfl Tryz.func182 (by kernel_rfl) rfl #[.string a0,.string a1] rfl (by (try simp only [List.map_toArray,List.map_cons,List.map_nil]); first | done | rfl | (simp only [List.length_drop,List.length_take]; rfl)) ?_; (with_reducible refine (stringslite_HasPrefix.calls a0 a1 false _ A3.out).mono ?_); rintro e w' ⟨rfl,⟨nd,rfl⟩⟩; refine ⟨_,rfl,?_⟩))
  go_ret2
  exact ⟨by first | rfl | (simp; done) | (simp [*]; done) | (simp [show ∀ l : List UInt8,(l != []) = !l.isEmpty from fun l => by cases l <;> rfl]; done),by repeat (first | exact Drawn0.refl _ | apply Drawn0.step)⟩

def strings_CutPrefix.f (a0 : ByteArray) (a1 : ByteArray) : Option (ByteArray × Bool):=(stringslite_CutPrefix.f a0 a1).bind fun bt103 => (some (bt103.1,bt103.2))
set_option maxHeartbeats 8000000 in
set_option maxRecDepth 100000 in
theorem strings_CutPrefix.calls (a0 : ByteArray) (a1 : ByteArray) (r1 : ByteArray) (r2 : Bool) (w : World) (h : strings_CutPrefix.f a0 a1 = some (r1,r2)) :
  Calls Tryz.prog 134 #[.string a0,.string a1] w fun e w' => e = .returned (.tuple #[.string r1,.bool r2]) ∧ Drawn0 w w':=by
 have H : ((stringslite_CutPrefix.f a0 a1).bind fun bt103 => (some (bt103.1,bt103.2))) = some (r1,r2):=h
 clear h
 replace H:=Option.bind_eq_some_iff.mp H
 obtain ⟨⟨t103,t104⟩,A30,H⟩:=H
 replace H : (some (t103,t104)) = some (r1,r2):=H
 have A3:=Aside0.mk A30
 clear A30
 simp only [Option.some.injEq,Prod.mk.injEq] at H
 obtain ⟨rfl,rfl⟩:=H
 go_enter Tryz.func134,Tryz.ntmps134
 go_wp2_with (first | ((with_reducible refine gate_callee (f:=159) rfl ?_); refine goesL_ (some 8) rfl rfl Tryz.func159 (by kernel_rfl) rfl #[.string a0,.string a1] rfl (by (try simp only [List.map_toArray,List.map_cons,List.map_nil]); first | done | rfl | (simp only [List.length_drop,List.length_take]; rfl)) ?_; (with_reducible refine (stringslite_CutPrefix.calls a0 a1 t103 t104 _ A3.out).mono ?_); rintro e w' ⟨rfl,⟨nd,rfl⟩⟩; refine ⟨_,rfl,?_⟩))
 go_ret2
 exact ⟨by first | rfl | (simp; done) | (simp [*]; done) | (simp [show ∀ l : List UInt8,(l != []) = !l.isEmpty from fun l => by cases l <;> rfl]; done),by repeat (first | exact Drawn0.refl _ | apply Drawn0.step)⟩

def path_Within.f (a0 : ByteArray) (a1 : ByteArray) : Option (Bool):=(strings_CutPrefix.f a0 a1).bind fun bt105 => (if bt105.2 = true then (if bt105.1.toList = ([] : List UInt8) then (some true) else (if 0 < (bt105.1.size : Int) then (some ((bt bt105.1 0) == 47)) else (none))) else (some false))
set_option maxHeartbeats 8000000 in
set_option maxRecDepth 100000 in
theorem path_Within.calls (a0 : ByteArray) (a1 : ByteArray) (r : Bool) (w : World) (h : path_Within.f a0 a1 = some r) :
  Calls Tryz.prog 98 #[.string a0,.string a1] w fun e w' => e = .returned (.bool r) ∧ Drawn0 w w':=by
 have H : ((strings_CutPrefix.f a0 a1).bind fun bt105 => (if bt105.2 = true then (if bt105.1.toList = ([] : List UInt8) then (some true) else (if 0 < (bt105.1.size : Int) then (some ((bt bt105.1 0) == 47)) else (none))) else (some false))) = some r:=h
 clear h
 replace H:=Option.bind_eq_some_iff.mp H
 obtain ⟨⟨t105,t106⟩,A30,H⟩:=H
 replace H : (if t106 = true then (if t105.toList = ([] : List UInt8) then (some true) else (if 0 < (t105.size : Int) then (some ((bt t105 0) == 47)) else (none))) else (some false)) = some r:=H
 have A3:=Aside0.mk A30
 clear A30
 by_cases c4 : t106 = true
 ·subst c4
  have H1 : (if t105.toList = ([] : List UInt8) then (some true) else (if 0 < (t105.size : Int) then (some ((bt t105 0) == 47)) else (none))) = some r:=by rw [if_pos rfl] at H; exact H
  clear H
  have H:=H1
  clear H1
  by_cases c5 : t105.toList = ([] : List UInt8)
  ·rw [if_pos c5] at H
   have c5b0 : (t105.toList == ([] : List UInt8)) = true:=beq_iff_eq.mpr c5
   have c5b1 : (t105.toList != ([] : List UInt8)) = false:=bne_eq_false_iff_eq.mpr c5
   clear c5
   obtain rfl:=Option.some.inj H
   go_enter Tryz.func98,Tryz.ntmps98
   go_wp2_with (first | ((with_reducible refine gate_callee (f:=134) rfl ?_); refine goesL_ (some 10) rfl rfl Tryz.func134 (by kernel_rfl) rfl #[.string a0,.string a1] rfl (by (try simp only [List.map_toArray,List.map_cons,List.map_nil]); first | done | rfl | (simp only [List.length_drop,List.length_take]; rfl)) ?_; (with_reducible refine (strings_CutPrefix.calls a0 a1 t105 true _ A3.out).mono ?_); rintro e w' ⟨rfl,⟨nd,rfl⟩⟩; refine ⟨_,rfl,?_⟩))
   go_ret
   exact ⟨by first | rfl | (simp; done) | (simp [*]; done) | (simp [show ∀ l : List UInt8,(l != []) = !l.isEmpty from fun l => by cases l <;> rfl]; done),by repeat (first | exact Drawn0.refl _ | apply Drawn0.step)⟩
  ·rw [if_neg c5] at H
   have c5b0 : (t105.toList == ([] : List UInt8)) = false:=beq_eq_false_iff_ne.mpr c5
   have c5b1 : (t105.toList != ([] : List UInt8)) = true:=bne_iff_ne.mpr c5
   by_cases c6 : 0 < (t105.size : Int)
   ·rw [if_pos c6] at H
    have c6b0 : decide (0 < (t105.size : Int)) = true:=decide_eq_true c6
    have c6b1 : decide (0 < t105.size) = true:=decide_eq_true (by omega)
    clear c6
    obtain rfl:=Option.some.inj H
    go_enter Tryz.func98,Tryz.ntmps98
    go_wp2_with (first | ((with_reducible refine gate_callee (f:=134) rfl ?_); refine goesL_ (some 10) rfl rfl Tryz.func134 (by kernel_rfl) rfl #[.string a0,.string a1] rfl (by (try simp only [List.map_toArray,List.map_cons,List.map_nil]); first | done | rfl | (simp only [List.length_drop,List.length_take]; rfl)) ?_; (with_reducible refine (strings_CutPrefix.calls a0 a1 t105 true _ A3.out).mono ?_); rintro e w' ⟨rfl,⟨nd,rfl⟩⟩; refine ⟨_,rfl,?_⟩; have p7 : 0 ≤ (0 : Int):=(by omega); have q7 : 0 < t105.size:=(by have : (0 : Int) < (t105.size : Int):=of_decide_eq_true (by first | (with_reducible assumption) | assumption); omega); have hx7 : ∀ h : 0 < t105.size,((t105[0]'h).toNat : Int) = bt t105 0:=bt_at t105 0; clear p7; have qi7 : (0 < (t105.size : Int)) = True:=eq_true (of_decide_eq_true (by first | (with_reducible assumption) | assumption)); replace q7:=eq_true q7))
    go_ret
    exact ⟨by first | rfl | (simp; done) | (simp [*]; done) | (simp [show ∀ l : List UInt8,(l != []) = !l.isEmpty from fun l => by cases l <;> rfl]; done),by repeat (first | exact Drawn0.refl _ | apply Drawn0.step)⟩
   ·rw [if_neg c6] at H
    exact absurd H (by simp)
 ·replace c4:=Bool.eq_false_iff.mpr c4
  subst c4
  have H1 : (some false) = some r:=by rw [if_neg (show ¬ (false = true) by decide)] at H; exact H
  clear H
  have H:=H1
  clear H1
  obtain rfl:=Option.some.inj H
  go_enter Tryz.func98,Tryz.ntmps98
  go_wp2_with (first | ((with_reducible refine gate_callee (f:=134) rfl ?_); refine goesL_ (some 10) rfl rfl Tryz.func134 (by kernel_rfl) rfl #[.string a0,.string a1] rfl (by (try simp only [List.map_toArray,List.map_cons,List.map_nil]); first | done | rfl | (simp only [List.length_drop,List.length_take]; rfl)) ?_; (with_reducible refine (strings_CutPrefix.calls a0 a1 t105 false _ A3.out).mono ?_); rintro e w' ⟨rfl,⟨nd,rfl⟩⟩; refine ⟨_,rfl,?_⟩))
  go_ret
  exact ⟨by first | rfl | (simp; done) | (simp [*]; done) | (simp [show ∀ l : List UInt8,(l != []) = !l.isEmpty from fun l => by cases l <;> rfl]; done),by repeat (first | exact Drawn0.refl _ | apply Drawn0.step)⟩

def path_Apart.f (a0 : ByteArray) (a1 : ByteArray) : Option (Bool):=(path_Within.f a0 a1).bind fun t107 => (if t107 = true then (some false) else ((path_Within.f a1 a0).bind fun t108 => (some (!t108))))
set_option maxHeartbeats 8000000 in
set_option maxRecDepth 100000 in
theorem path_Apart.calls (a0 : ByteArray) (a1 : ByteArray) (r : Bool) (w : World) (h : path_Apart.f a0 a1 = some r) :
  Calls Tryz.prog 68 #[.string a0,.string a1] w fun e w' => e = .returned (.bool r) ∧ Drawn0 w w':=by
 have H : ((path_Within.f a0 a1).bind fun t107 => (if t107 = true then (some false) else ((path_Within.f a1 a0).bind fun t108 => (some (!t108))))) = some r:=h
 clear h
 replace H:=Option.bind_eq_some_iff.mp H
 obtain ⟨t107,A30,H⟩:=H
 replace H : (if t107 = true then (some false) else ((path_Within.f a1 a0).bind fun t108 => (some (!t108)))) = some r:=H
 have A3:=Aside0.mk A30
 clear A30
 by_cases c4 : t107 = true
 ·subst c4
  have H1 : (some false) = some r:=by rw [if_pos rfl] at H; exact H
  clear H
  have H:=H1
  clear H1
  obtain rfl:=Option.some.inj H
  go_enter Tryz.func68,Tryz.ntmps68
  go_wp2_with (first | ((with_reducible refine gate_callee (f:=98) rfl ?_); refine goesL_ (some 7) rfl rfl Tryz.func98 (by kernel_rfl) rfl #[.string a0,.string a1] rfl (by (try simp only [List.map_toArray,List.map_cons,List.map_nil]); first | done | rfl | (simp only [List.length_drop,List.length_take]; rfl)) ?_; (with_reducible refine (path_Within.calls a0 a1 true _ A3.out).mono ?_); rintro e w' ⟨rfl,⟨nd,rfl⟩⟩; refine ⟨_,rfl,?_⟩))
  go_ret
  exact ⟨by first | rfl | (simp; done) | (simp [*]; done) | (simp [show ∀ l : List UInt8,(l != []) = !l.isEmpty from fun l => by cases l <;> rfl]; done),by repeat (first | exact Drawn0.refl _ | apply Drawn0.step)⟩
 ·replace c4:=Bool.eq_false_iff.mpr c4
  subst c4
  have H1 : ((path_Within.f a1 a0).bind fun t108 => (some (!t108))) = some r:=by rw [if_neg (show ¬ (false = true) by decide)] at H; exact H
  clear H
  have H:=H1
  clear H1
  replace H:=Option.bind_eq_some_iff.mp H
  obtain ⟨t108,A50,H⟩:=H
  replace H : (some (!t108)) = some r:=H
  have A5:=Aside0.mk A50
  clear A50
  obtain rfl:=Option.some.inj H
  go_enter Tryz.func68,Tryz.ntmps68
  go_wp2_with (first | ((with_reducible refine gate_callee (f:=98) rfl ?_); refine goesL_ (some 7) rfl rfl Tryz.func98 (by kernel_rfl) rfl #[.string a0,.string a1] rfl (by (try simp only [List.map_toArray,List.map_cons,List.map_nil]); first | done | rfl | (simp only [List.length_drop,List.length_take]; rfl)) ?_; (with_reducible refine (path_Within.calls a0 a1 false _ A3.out).mono ?_); rintro e w' ⟨rfl,⟨nd,rfl⟩⟩; refine ⟨_,rfl,?_⟩) | (go_at_call 98; (with_reducible refine (path_Within.calls a1 a0 t108 _ A5.out).mono ?_); rintro e w' ⟨rfl,⟨nd,rfl⟩⟩))
  go_ret
  exact ⟨by first | rfl | (simp; done) | (simp [*]; done) | (simp [show ∀ l : List UInt8,(l != []) = !l.isEmpty from fun l => by cases l <;> rfl]; done),by repeat (first | exact Drawn0.refl _ | apply Drawn0.step)⟩

-- NOT PRINTED: function 148 (slices_IndexFunc_string_string)

-- NOT PRINTED: function 114 (slices_ContainsFunc_string_string)

end Go.Proofs.YthhohbidjhcjeaaGreatDoor.Q
namespace Go.Proofs.YthhohbidjhcjeaaGreatDoor.Q
open Go.RowKit Go.Proofs.YthhohbidjhcjeaaGreatDoorW.PrintWords Go.Proofs.YthhohbidjhcjeaaGreatDoorW.PrintLast Go.Proofs.YthhohbidjhcjeaaGreatDoorW.PrintMore
attribute [local go_sem] max2_int min2_int max_two min_two max_three min_three max_four min_four   -- for this text's walks alone
set_option linter.unusedVariables false
set_option linter.unusedSimpArgs false

mutual
def counterpanelaw08_Great.j1 : Nat → Int → Int → ByteArray → ByteArray → ByteArray → Int → List ByteArray → List ByteArray → Option (Bool)
 | 0,_,_,_,_,_,_,_,_ => none
 | k + 1,x3,x189000,x189001,x189002,x189003,x189004,x189005,x189006 => counterpanelaw08_Great.l1 k x3 0 x189000 x189001 x189002 x189003 x189004 x189005 x189006
def counterpanelaw08_Great.l1 : Nat → Int → Int → Int → ByteArray → ByteArray → ByteArray → Int → List ByteArray → List ByteArray → Option (Bool)
 | 0,_,_,_,_,_,_,_,_,_ => none
 | k + 1,x3,x5,x189000,x189001,x189002,x189003,x189004,x189005,x189006 => if x5 < (x189006.length : Int) then (if x3 < 4000 then (if 0 ≤ x5 then (counterpanelaw08_Great.l1 k (wrap64 (x3 + (mn ((rdOf ByteArray.empty x189006 x5).size : Int) 4000))) (wrap64 (x5 + 1)) x189000 x189001 x189002 x189003 x189004 x189005 x189006) else (none)) else (some (decide (x3 ≥ 4000)))) else (some (decide (x3 ≥ 4000)))
def counterpanelaw08_Great.l0 : Nat → Int → Int → Int → ByteArray → ByteArray → ByteArray → Int → List ByteArray → List ByteArray → Option (Bool)
 | 0,_,_,_,_,_,_,_,_,_ => none
 | k + 1,x3,x4,x189000,x189001,x189002,x189003,x189004,x189005,x189006 => if x4 < (x189005.length : Int) then (if x3 < 4000 then (if 0 ≤ x4 then (counterpanelaw08_Great.l0 k (wrap64 (x3 + (mn ((rdOf ByteArray.empty x189005 x4).size : Int) 4000))) (wrap64 (x4 + 1)) x189000 x189001 x189002 x189003 x189004 x189005 x189006) else (none)) else (counterpanelaw08_Great.j1 k x3 x189000 x189001 x189002 x189003 x189004 x189005 x189006)) else (counterpanelaw08_Great.j1 k x3 x189000 x189001 x189002 x189003 x189004 x189005 x189006)
end
def counterpanelaw08_Great.f (k : Nat) (a0_0 : Int) (a0_1 : ByteArray) (a0_2 : ByteArray) (a0_3 : ByteArray) (a0_4 : Int) (l0_5 : List ByteArray) (l0_6 : List ByteArray) : Option (Bool):=counterpanelaw08_Great.l0 k (wrap64 ((wrap64 ((((mn (a0_1.size : Int) 4000) + (mn (a0_2.size : Int) 4000)) + (mn (a0_3.size : Int) 4000)) + (l0_5.length : Int))) + (l0_6.length : Int))) 0 a0_0 a0_1 a0_2 a0_3 a0_4 l0_5 l0_6
theorem counterpanelaw08_Great.mono_l : ∀ k,(∀ y0 y1 y2 y3 y4 y5 y6 y7,LeO (counterpanelaw08_Great.j1 k y0 y1 y2 y3 y4 y5 y6 y7) (counterpanelaw08_Great.j1 (k + 1) y0 y1 y2 y3 y4 y5 y6 y7)) ∧ (∀ y0 y1 y2 y3 y4 y5 y6 y7 y8,LeO (counterpanelaw08_Great.l1 k y0 y1 y2 y3 y4 y5 y6 y7 y8) (counterpanelaw08_Great.l1 (k + 1) y0 y1 y2 y3 y4 y5 y6 y7 y8)) ∧ (∀ y0 y1 y2 y3 y4 y5 y6 y7 y8,LeO (counterpanelaw08_Great.l0 k y0 y1 y2 y3 y4 y5 y6 y7 y8) (counterpanelaw08_Great.l0 (k + 1) y0 y1 y2 y3 y4 y5 y6 y7 y8))
 | 0 => ⟨fun _ _ _ _ _ _ _ _ r h => by simp [counterpanelaw08_Great.j1] at h,fun _ _ _ _ _ _ _ _ _ r h => by simp [counterpanelaw08_Great.l1] at h,fun _ _ _ _ _ _ _ _ _ r h => by simp [counterpanelaw08_Great.l0] at h⟩
 | k + 1 => by
  obtain ⟨ih0,ih1,ih2⟩:=counterpanelaw08_Great.mono_l k
  refine ⟨?_,?_,?_⟩
  ·intro y0 y1 y2 y3 y4 y5 y6 y7
   unfold counterpanelaw08_Great.j1
   repeat' first
   | (with_reducible exact ih0 _ _ _ _ _ _ _ _)
   | (with_reducible exact ih1 _ _ _ _ _ _ _ _ _)
   | (with_reducible exact ih2 _ _ _ _ _ _ _ _ _)
   | (with_reducible exact LeO.refl _)
   | (with_reducible exact LeO.none _)
   | (with_reducible refine LeO.ite ?_ ?_)
   | (with_reducible refine LeO.bind ?_ (fun _ => ?_))
   | exact ih0 _ _ _ _ _ _ _ _
   | exact ih1 _ _ _ _ _ _ _ _ _
   | exact ih2 _ _ _ _ _ _ _ _ _
   | exact LeO.none _
   | refine LeO.ite ?_ ?_
   | refine LeO.bind ?_ (fun _ => ?_)
  ·intro y0 y1 y2 y3 y4 y5 y6 y7 y8
   unfold counterpanelaw08_Great.l1
   repeat' first
   | (with_reducible exact ih0 _ _ _ _ _ _ _ _)
   | (with_reducible exact ih1 _ _ _ _ _ _ _ _ _)
   | (with_reducible exact ih2 _ _ _ _ _ _ _ _ _)
   | (with_reducible exact LeO.refl _)
   | (with_reducible exact LeO.none _)
   | (with_reducible refine LeO.ite ?_ ?_)
   | (with_reducible refine LeO.bind ?_ (fun _ => ?_))
   | exact ih0 _ _ _ _ _ _ _ _
   | exact ih1 _ _ _ _ _ _ _ _ _
   | exact ih2 _ _ _ _ _ _ _ _ _
   | exact LeO.none _
   | refine LeO.ite ?_ ?_
   | refine LeO.bind ?_ (fun _ => ?_)
  ·intro y0 y1 y2 y3 y4 y5 y6 y7 y8
   unfold counterpanelaw08_Great.l0
   repeat' first
   | (with_reducible exact ih0 _ _ _ _ _ _ _ _)
   | (with_reducible exact ih1 _ _ _ _ _ _ _ _ _)
   | (with_reducible exact ih2 _ _ _ _ _ _ _ _ _)
   | (with_reducible exact LeO.refl _)
   | (with_reducible exact LeO.none _)
   | (with_reducible refine LeO.ite ?_ ?_)
   | (with_reducible refine LeO.bind ?_ (fun _ => ?_))
   | exact ih0 _ _ _ _ _ _ _ _
   | exact ih1 _ _ _ _ _ _ _ _ _
   | exact ih2 _ _ _ _ _ _ _ _ _
   | exact LeO.none _
   | refine LeO.ite ?_ ?_
   | refine LeO.bind ?_ (fun _ => ?_)
theorem counterpanelaw08_Great.mono : ∀ a0 a1 a2 a3 a4 a5 a6 k,LeO (counterpanelaw08_Great.f k a0 a1 a2 a3 a4 a5 a6) (counterpanelaw08_Great.f (k + 1) a0 a1 a2 a3 a4 a5 a6):=by
 intro a0 a1 a2 a3 a4 a5 a6 k
 obtain ⟨ih0,ih1,ih2⟩:=counterpanelaw08_Great.mono_l k
 unfold counterpanelaw08_Great.f
 repeat' first
   | (with_reducible exact ih0 _ _ _ _ _ _ _ _)
   | (with_reducible exact ih1 _ _ _ _ _ _ _ _ _)
   | (with_reducible exact ih2 _ _ _ _ _ _ _ _ _)
   | (with_reducible exact LeO.refl _)
   | (with_reducible exact LeO.none _)
   | (with_reducible refine LeO.ite ?_ ?_)
   | (with_reducible refine LeO.bind ?_ (fun _ => ?_))
   | exact ih0 _ _ _ _ _ _ _ _
   | exact ih1 _ _ _ _ _ _ _ _ _
   | exact ih2 _ _ _ _ _ _ _ _ _
   | exact LeO.none _
   | refine LeO.ite ?_ ?_
   | refine LeO.bind ?_ (fun _ => ?_)
set_option maxHeartbeats 8000000 in
set_option maxRecDepth 100000 in
theorem counterpanelaw08_Great.calls (k : Nat) (a0_0 : Int) (a0_1 : ByteArray) (a0_2 : ByteArray) (a0_3 : ByteArray) (a0_4 : Int) (A0_5 : Option Addr) (c0_5 : Nat) (l0_5 : List ByteArray) (A0_6 : Option Addr) (c0_6 : Nat) (l0_6 : List ByteArray) (r : Bool) (w : World) (hr0_5 : Kd.C Kd.string w A0_5 l0_5.length l0_5) (hc0_5 : l0_5.length ≤ c0_5) (hr0_6 : Kd.C Kd.string w A0_6 l0_6.length l0_6) (hc0_6 : l0_6.length ≤ c0_6) (h : counterpanelaw08_Great.f k a0_0 a0_1 a0_2 a0_3 a0_4 l0_5 l0_6 = some r) :
  Calls Tryz.prog 22 #[.agg #[.int .i64 a0_0,.string a0_1,.string a0_2,.string a0_3,.int .i64 a0_4,.slice A0_5 l0_5.length c0_5,.slice A0_6 l0_6.length c0_6]] w fun e w' => e = .returned (.bool r) ∧ Below w.heap.size w w':=by
 have hu25:=Tryz.underlying25
 have HR0_5:=Aside0.mk hr0_5
 have HC0_5:=Aside0.mk hc0_5
 clear hr0_5 hc0_5
 have HR0_6:=Aside0.mk hr0_6
 have HC0_6:=Aside0.mk hc0_6
 clear hr0_6 hc0_6
 have HB:=Aside0.mk (Below.refl w.heap.size w)
 have H : (counterpanelaw08_Great.l0 k (wrap64 ((wrap64 ((((mn (a0_1.size : Int) 4000) + (mn (a0_2.size : Int) 4000)) + (mn (a0_3.size : Int) 4000)) + (l0_5.length : Int))) + (l0_6.length : Int))) 0 a0_0 a0_1 a0_2 a0_3 a0_4 l0_5 l0_6) = some r:=h
 clear h
 obtain ⟨ji2,hji2⟩ : ∃ j_ : Int,(mn (a0_1.size : Int) 4000) = j_:=⟨_,rfl⟩
 replace H : (counterpanelaw08_Great.l0 k (wrap64 ((wrap64 ((((ji2) + (mn (a0_2.size : Int) 4000)) + (mn (a0_3.size : Int) 4000)) + (l0_5.length : Int))) + (l0_6.length : Int))) 0 a0_0 a0_1 a0_2 a0_3 a0_4 l0_5 l0_6) = some r:=by first | (rw [hji2] at H; exact H) | (simp only [hji2] at H ⊢; exact H)
 (try (have hji2h : ji2 ≤ 4000:=by (rw [← hji2]; unfold mn; (repeat' split) <;> omega)))
 (try (have hji2g : ji2 ≤ 64:=by omega))
 (try (have hji2l : 0 ≤ ji2:=by (rw [← hji2]; unfold mn; (repeat' split) <;> omega)))
 (try (have hji2m : 0 ≤ ji2:=by omega))
 have hji2_ : (if 4000 < (a0_1.size : Int) then 4000 else (a0_1.size : Int)) = ji2:=hji2
 obtain ⟨ji3,hji3⟩ : ∃ j_ : Int,(mn (a0_2.size : Int) 4000) = j_:=⟨_,rfl⟩
 replace H : (counterpanelaw08_Great.l0 k (wrap64 ((wrap64 ((((ji2) + (ji3)) + (mn (a0_3.size : Int) 4000)) + (l0_5.length : Int))) + (l0_6.length : Int))) 0 a0_0 a0_1 a0_2 a0_3 a0_4 l0_5 l0_6) = some r:=by first | (rw [hji3] at H; exact H) | (simp only [hji3] at H ⊢; exact H)
 (try (have hji3h : ji3 ≤ 4000:=by (rw [← hji3]; unfold mn; (repeat' split) <;> omega)))
 (try (have hji3g : ji3 ≤ 64:=by omega))
 (try (have hji3l : 0 ≤ ji3:=by (rw [← hji3]; unfold mn; (repeat' split) <;> omega)))
 (try (have hji3m : 0 ≤ ji3:=by omega))
 have hji3_ : (if 4000 < (a0_2.size : Int) then 4000 else (a0_2.size : Int)) = ji3:=hji3
 obtain ⟨ji4,hji4⟩ : ∃ j_ : Int,(mn (a0_3.size : Int) 4000) = j_:=⟨_,rfl⟩
 replace H : (counterpanelaw08_Great.l0 k (wrap64 ((wrap64 ((((ji2) + (ji3)) + (ji4)) + (l0_5.length : Int))) + (l0_6.length : Int))) 0 a0_0 a0_1 a0_2 a0_3 a0_4 l0_5 l0_6) = some r:=by first | (rw [hji4] at H; exact H) | (simp only [hji4] at H ⊢; exact H)
 (try (have hji4h : ji4 ≤ 4000:=by (rw [← hji4]; unfold mn; (repeat' split) <;> omega)))
 (try (have hji4g : ji4 ≤ 64:=by omega))
 (try (have hji4l : 0 ≤ ji4:=by (rw [← hji4]; unfold mn; (repeat' split) <;> omega)))
 (try (have hji4m : 0 ≤ ji4:=by omega))
 have hji4_ : (if 4000 < (a0_3.size : Int) then 4000 else (a0_3.size : Int)) = ji4:=hji4
 have HC5:=Aside0.mk H
 clear H
 go_enter Tryz.func22,Tryz.ntmps22
 go_upto_block 0 with (first | ((with_reducible refine gate_dst (N:=1) rfl ?_); refine box_event ?hg (N:=1) ?hd (cs:=#[.int .i64 a0_0,.string a0_1,.string a0_2,.string a0_3,.int .i64 a0_4,.slice A0_5 l0_5.length c0_5,.slice A0_6 l0_6.length c0_6]) (t:=25) ?hr ?_; (case hd => rfl); (case hg => rfl); (case hr => first | (go_simp; done) | (go_simp; rfl)); intro gb188 hg w6 hbox hb; have n0_:=Aside0.mk (below_step (by repeat (first | (with_reducible first | exact HB.out | apply below_alloc | apply pw_below_drewN | apply below_drew1) | exact HB.out)) hb); have n1_:=Aside0.mk (hbox); have n2_:=Aside0.mk ((by rw [hg]; exact (below_size (by repeat (first | (with_reducible first | exact HB.out | apply below_alloc | apply pw_below_drewN | apply below_drew1) | exact HB.out))) : w.heap.size ≤ gb188)); have n3_:=Aside0.mk ((by rw [hg]; exact (below_size (by repeat (first | (with_reducible first | exact HB.out | apply below_alloc | apply pw_below_drewN | apply below_drew1) | exact HB.out))) : w.heap.size ≤ gb188)); clear HB; have HB:=n0_; have BK188:=n1_; have GW188:=n2_; have GE188:=n3_; clear n0_ n1_ n2_ n3_; clear hb hbox hg; have hcz7_0 : w6.cell? ⟨gb188,0,none⟩ = some (.int .i64 a0_0):=(blk_cell BK188.out 0).trans rfl; have hcz7_1 : w6.cell? ⟨gb188,1,none⟩ = some (.string a0_1):=(blk_cell BK188.out 1).trans rfl; have hcz7_2 : w6.cell? ⟨gb188,2,none⟩ = some (.string a0_2):=(blk_cell BK188.out 2).trans rfl; have hcz7_3 : w6.cell? ⟨gb188,3,none⟩ = some (.string a0_3):=(blk_cell BK188.out 3).trans rfl; have hcz7_4 : w6.cell? ⟨gb188,4,none⟩ = some (.int .i64 a0_4):=(blk_cell BK188.out 4).trans rfl; have hcz7_5 : w6.cell? ⟨gb188,5,none⟩ = some (.slice A0_5 l0_5.length c0_5):=(blk_cell BK188.out 5).trans rfl; have hcz7_6 : w6.cell? ⟨gb188,6,none⟩ = some (.slice A0_6 l0_6.length c0_6):=(blk_cell BK188.out 6).trans rfl; have hfz7_0:=blk_frozen BK188.out 0; have hfz7_1:=blk_frozen BK188.out 1; have hfz7_2:=blk_frozen BK188.out 2; have hfz7_3:=blk_frozen BK188.out 3; have hfz7_4:=blk_frozen BK188.out 4; have hfz7_5:=blk_frozen BK188.out 5; have hfz7_6:=blk_frozen BK188.out 6))
 (try simp only [Act.put,List.setIfInBounds_toArray,List.set_cons_zero,List.set_cons_succ])
 go_cut [3] (fun v3 wc => ∃ (kq : Nat) (x3_4 : Int),v3 = .int .i64 x3_4 ∧ Aside0 (counterpanelaw08_Great.j1 kq x3_4 a0_0 a0_1 a0_2 a0_3 a0_4 l0_5 l0_6 = some r) ∧ Aside0 (kq ≤ k) ∧ Aside0 (wc.heap[gb188]? = some (.cells #[.int .i64 a0_0,.string a0_1,.string a0_2,.string a0_3,.int .i64 a0_4,(.slice A0_5 l0_5.length c0_5),(.slice A0_6 l0_6.length c0_6)] 25 (0,0))) ∧ Aside0 (Below w.heap.size w wc))
 case first =>
  have H:=HC5.out
  clear HC5
  have H':=Aside0.mk H
  clear H
  go_wp2
  go_loopg [3,4] k (fun kq v3 v4 w' => ∃ (x3_1 : Int) (x4_1 : Int),v3 = .int .i64 x3_1 ∧ v4 = .int .i64 x4_1 ∧ Aside0 (counterpanelaw08_Great.l0 kq x3_1 x4_1 a0_0 a0_1 a0_2 a0_3 a0_4 l0_5 l0_6 = some r) ∧ Aside0 (kq ≤ k) ∧ Aside0 (w'.heap[gb188]? = some (.cells #[.int .i64 a0_0,.string a0_1,.string a0_2,.string a0_3,.int .i64 a0_4,(.slice A0_5 l0_5.length c0_5),(.slice A0_6 l0_6.length c0_6)] 25 (0,0))) ∧ Aside0 (Below w.heap.size w w'))
  case atStart => exact ⟨(wrap64 ((wrap64 ((((ji2) + (ji3)) + (ji4)) + (l0_5.length : Int))) + (l0_6.length : Int))),(0),(by first | rfl | (simp; done) | (simp only [← hji2,← hji3,← hji4] <;> (first | rfl | simp)) | (simp [*]; done)),(by first | rfl | (simp; done) | (simp [*]; done)),H',⟨Nat.le_refl _⟩,⟨by (with_reducible repeat (first | refine blk_drewN ?_ _ | refine blk_drew ?_ | refine blk_alloc ?_ _)); exact BK188.out⟩,⟨by repeat (first | (with_reducible first | exact HB.out | apply below_alloc | apply pw_below_drewN | apply below_drew1 | refine below_set ?_ GE188.out) | exact HB.out)⟩⟩
  case round =>
   clear H'
   try clear c2
   try clear p2
   try clear p6
   try clear hcz7_0
   try clear hcz7_1
   try clear hcz7_2
   try clear hcz7_3
   try clear hcz7_4
   try clear hcz7_5
   try clear hcz7_6
   try clear hfz7_0
   try clear hfz7_1
   try clear hfz7_2
   try clear hfz7_3
   try clear hfz7_4
   try clear hfz7_5
   try clear hfz7_6
   obtain ⟨x3_1,x4_1,rfl,rfl,HA,HK1,BK188,HB⟩:=hrel
   cases gk with
   | zero => exact absurd HA.out (by simp [counterpanelaw08_Great.l0])
   | succ k1 =>
    have H:=HA.out
    clear HA
    simp only [counterpanelaw08_Great.l0] at H
    by_cases c8 : x4_1 < (l0_5.length : Int)
    ·rw [if_pos c8] at H
     have c8b0 : decide (x4_1 < (l0_5.length : Int)) = true:=decide_eq_true c8
     clear c8
     (first | rw [c8b0] | (simp only [i64_w,i32_w]; rw [c8b0]) | skip)
     by_cases c9 : x3_1 < 4000
     ·rw [if_pos c9] at H
      have c9b0 : decide (x3_1 < 4000) = true:=decide_eq_true c9
      clear c9
      by_cases c10 : 0 ≤ x4_1
      ·rw [if_pos c10] at H
       have c10b0 : decide (0 ≤ x4_1) = true:=decide_eq_true c10
       clear c10
       obtain ⟨ji11,hji11⟩ : ∃ j_ : Int,(mn ((rdOf ByteArray.empty l0_5 x4_1).size : Int) 4000) = j_:=⟨_,rfl⟩
       replace H : (counterpanelaw08_Great.l0 k1 (wrap64 (x3_1 + (ji11))) (wrap64 (x4_1 + 1)) a0_0 a0_1 a0_2 a0_3 a0_4 l0_5 l0_6) = some r:=by first | (rw [hji11] at H; exact H) | (simp only [hji11] at H ⊢; exact H)
       have hji11_ : (if 4000 < ((rdOf ByteArray.empty l0_5 x4_1).size : Int) then 4000 else ((rdOf ByteArray.empty l0_5 x4_1).size : Int)) = ji11:=hji11
       have H':=Aside0.mk H
       clear H
       have hcz12_0 : wr.cell? ⟨gb188,0,none⟩ = some (.int .i64 a0_0):=(blk_cell BK188.out 0).trans rfl
       have hcz12_1 : wr.cell? ⟨gb188,1,none⟩ = some (.string a0_1):=(blk_cell BK188.out 1).trans rfl
       have hcz12_2 : wr.cell? ⟨gb188,2,none⟩ = some (.string a0_2):=(blk_cell BK188.out 2).trans rfl
       have hcz12_3 : wr.cell? ⟨gb188,3,none⟩ = some (.string a0_3):=(blk_cell BK188.out 3).trans rfl
       have hcz12_4 : wr.cell? ⟨gb188,4,none⟩ = some (.int .i64 a0_4):=(blk_cell BK188.out 4).trans rfl
       have hcz12_5 : wr.cell? ⟨gb188,5,none⟩ = some (.slice A0_5 l0_5.length c0_5):=(blk_cell BK188.out 5).trans rfl
       have hcz12_6 : wr.cell? ⟨gb188,6,none⟩ = some (.slice A0_6 l0_6.length c0_6):=(blk_cell BK188.out 6).trans rfl
       have hfz12_0:=blk_frozen BK188.out 0
       have hfz12_1:=blk_frozen BK188.out 1
       have hfz12_2:=blk_frozen BK188.out 2
       have hfz12_3:=blk_frozen BK188.out 3
       have hfz12_4:=blk_frozen BK188.out 4
       have hfz12_5:=blk_frozen BK188.out 5
       have hfz12_6:=blk_frozen BK188.out 6
       have p189 : 0 ≤ (x4_1 : Int):=of_decide_eq_true (by first | (with_reducible assumption) | assumption)
       have q189 : x4_1 < (l0_5.length : Int):=of_decide_eq_true (by first | (with_reducible assumption) | assumption)
       obtain ⟨ad189,e189,hx189_0⟩:=Kd.at_string HR0_5.out x4_1 p189 q189
       cases e189
       replace hx189_0:=(HB.out.cell (World.block_lt_of_cell? w _ hx189_0)).trans hx189_0
       replace p189:=eq_true p189
       replace q189:=eq_true q189
       go_wp2
       go_roundg k1
       case measure => have:=HK1.out; omega
       case rel => exact ⟨(wrap64 (x3_1 + (ji11))),(wrap64 (x4_1 + 1)),(by first | rfl | (simp; done) | (simp only [← hji11] <;> (first | rfl | simp)) | (simp [*]; done)),(by first | rfl | (simp; done) | (simp [*]; done)),H',⟨by have:=HK1.out; omega⟩,⟨by (with_reducible repeat (first | refine blk_drewN ?_ _ | refine blk_drew ?_ | refine blk_alloc ?_ _)); exact BK188.out⟩,⟨by repeat (first | (with_reducible first | exact HB.out | apply below_alloc | apply pw_below_drewN | apply below_drew1 | refine below_set ?_ GE188.out) | exact HB.out)⟩⟩
      ·rw [if_neg c10] at H
       exact absurd H (by simp)
     ·rw [if_neg c9] at H
      have c9b0 : decide (x3_1 < 4000) = false:=decide_eq_false c9
      clear c9
      have H':=Aside0.mk H
      clear H
      have hcz13_0 : wr.cell? ⟨gb188,0,none⟩ = some (.int .i64 a0_0):=(blk_cell BK188.out 0).trans rfl
      have hcz13_1 : wr.cell? ⟨gb188,1,none⟩ = some (.string a0_1):=(blk_cell BK188.out 1).trans rfl
      have hcz13_2 : wr.cell? ⟨gb188,2,none⟩ = some (.string a0_2):=(blk_cell BK188.out 2).trans rfl
      have hcz13_3 : wr.cell? ⟨gb188,3,none⟩ = some (.string a0_3):=(blk_cell BK188.out 3).trans rfl
      have hcz13_4 : wr.cell? ⟨gb188,4,none⟩ = some (.int .i64 a0_4):=(blk_cell BK188.out 4).trans rfl
      have hcz13_5 : wr.cell? ⟨gb188,5,none⟩ = some (.slice A0_5 l0_5.length c0_5):=(blk_cell BK188.out 5).trans rfl
      have hcz13_6 : wr.cell? ⟨gb188,6,none⟩ = some (.slice A0_6 l0_6.length c0_6):=(blk_cell BK188.out 6).trans rfl
      have hfz13_0:=blk_frozen BK188.out 0
      have hfz13_1:=blk_frozen BK188.out 1
      have hfz13_2:=blk_frozen BK188.out 2
      have hfz13_3:=blk_frozen BK188.out 3
      have hfz13_4:=blk_frozen BK188.out 4
      have hfz13_5:=blk_frozen BK188.out 5
      have hfz13_6:=blk_frozen BK188.out 6
      go_wp2
      go_meet
      case rel => exact ⟨_,(x3_1),(by first | rfl | (simp; done) | (simp [*]; done)),H',⟨by have:=HK1.out; first | omega | exact Nat.le_refl _⟩,⟨by (with_reducible repeat (first | refine blk_drewN ?_ _ | refine blk_drew ?_ | refine blk_alloc ?_ _)); exact BK188.out⟩,⟨by repeat (first | (with_reducible first | exact HB.out | apply below_alloc | apply pw_below_drewN | apply below_drew1 | refine below_set ?_ GE188.out) | exact HB.out)⟩⟩
    ·rw [if_neg c8] at H
     have c8b0 : decide (x4_1 < (l0_5.length : Int)) = false:=decide_eq_false c8
     clear c8
     (first | rw [c8b0] | (simp only [i64_w,i32_w]; rw [c8b0]) | skip)
     have H':=Aside0.mk H
     clear H
     have hcz14_0 : wr.cell? ⟨gb188,0,none⟩ = some (.int .i64 a0_0):=(blk_cell BK188.out 0).trans rfl
     have hcz14_1 : wr.cell? ⟨gb188,1,none⟩ = some (.string a0_1):=(blk_cell BK188.out 1).trans rfl
     have hcz14_2 : wr.cell? ⟨gb188,2,none⟩ = some (.string a0_2):=(blk_cell BK188.out 2).trans rfl
     have hcz14_3 : wr.cell? ⟨gb188,3,none⟩ = some (.string a0_3):=(blk_cell BK188.out 3).trans rfl
     have hcz14_4 : wr.cell? ⟨gb188,4,none⟩ = some (.int .i64 a0_4):=(blk_cell BK188.out 4).trans rfl
     have hcz14_5 : wr.cell? ⟨gb188,5,none⟩ = some (.slice A0_5 l0_5.length c0_5):=(blk_cell BK188.out 5).trans rfl
     have hcz14_6 : wr.cell? ⟨gb188,6,none⟩ = some (.slice A0_6 l0_6.length c0_6):=(blk_cell BK188.out 6).trans rfl
     have hfz14_0:=blk_frozen BK188.out 0
     have hfz14_1:=blk_frozen BK188.out 1
     have hfz14_2:=blk_frozen BK188.out 2
     have hfz14_3:=blk_frozen BK188.out 3
     have hfz14_4:=blk_frozen BK188.out 4
     have hfz14_5:=blk_frozen BK188.out 5
     have hfz14_6:=blk_frozen BK188.out 6
     go_wp2
     go_meet
     case rel => exact ⟨_,(x3_1),(by first | rfl | (simp; done) | (simp [*]; done)),H',⟨by have:=HK1.out; first | omega | exact Nat.le_refl _⟩,⟨by (with_reducible repeat (first | refine blk_drewN ?_ _ | refine blk_drew ?_ | refine blk_alloc ?_ _)); exact BK188.out⟩,⟨by repeat (first | (with_reducible first | exact HB.out | apply below_alloc | apply pw_below_drewN | apply below_drew1 | refine below_set ?_ GE188.out) | exact HB.out)⟩⟩
 case rest =>
  clear HC5
  try clear c1
  try clear p1
  try clear q1
  try clear hx1
  try clear c2
  try clear p2
  try clear p6
  try clear c8
  try clear c8b0
  try clear c9
  try clear c9b0
  try clear c10
  try clear c10b0
  try clear hcz12_0
  try clear hcz12_1
  try clear hcz12_2
  try clear hcz12_3
  try clear hcz12_4
  try clear hcz12_5
  try clear hcz12_6
  try clear hcz13_0
  try clear hcz13_1
  try clear hcz13_2
  try clear hcz13_3
  try clear hcz13_4
  try clear hcz13_5
  try clear hcz13_6
  try clear hcz14_0
  try clear hcz14_1
  try clear hcz14_2
  try clear hcz14_3
  try clear hcz14_4
  try clear hcz14_5
  try clear hcz14_6
  try clear hcz7_0
  try clear hcz7_1
  try clear hcz7_2
  try clear hcz7_3
  try clear hcz7_4
  try clear hcz7_5
  try clear hcz7_6
  try clear hfz12_0
  try clear hfz12_1
  try clear hfz12_2
  try clear hfz12_3
  try clear hfz12_4
  try clear hfz12_5
  try clear hfz12_6
  try clear hfz13_0
  try clear hfz13_1
  try clear hfz13_2
  try clear hfz13_3
  try clear hfz13_4
  try clear hfz13_5
  try clear hfz13_6
  try clear hfz14_0
  try clear hfz14_1
  try clear hfz14_2
  try clear hfz14_3
  try clear hfz14_4
  try clear hfz14_5
  try clear hfz14_6
  try clear hfz7_0
  try clear hfz7_1
  try clear hfz7_2
  try clear hfz7_3
  try clear hfz7_4
  try clear hfz7_5
  try clear hfz7_6
  try clear hx189_0
  try clear p189
  try clear p2
  try clear p6
  try clear q189
  obtain ⟨kq,x3_4,rfl,HA,HJ4,BK188,HB⟩:=hcut
  cases kq with
  | zero => exact absurd HA.out (by simp [counterpanelaw08_Great.j1])
  | succ kj4 =>
   have H:=HA.out
   clear HA
   simp only [counterpanelaw08_Great.j1] at H
   have H':=Aside0.mk H
   clear H
   go_wp2
   go_loopg [3,5] kj4 (fun kq v3 v5 w' => ∃ (x3_2 : Int) (x5_2 : Int),v3 = .int .i64 x3_2 ∧ v5 = .int .i64 x5_2 ∧ Aside0 (counterpanelaw08_Great.l1 kq x3_2 x5_2 a0_0 a0_1 a0_2 a0_3 a0_4 l0_5 l0_6 = some r) ∧ Aside0 (kq ≤ kj4) ∧ Aside0 (w'.heap[gb188]? = some (.cells #[.int .i64 a0_0,.string a0_1,.string a0_2,.string a0_3,.int .i64 a0_4,(.slice A0_5 l0_5.length c0_5),(.slice A0_6 l0_6.length c0_6)] 25 (0,0))) ∧ Aside0 (Below w.heap.size w w'))
   case atStart => exact ⟨(x3_4),(0),(by first | rfl | (simp; done) | (simp [*]; done)),(by first | rfl | (simp; done) | (simp [*]; done)),H',⟨Nat.le_refl _⟩,⟨by (with_reducible repeat (first | refine blk_drewN ?_ _ | refine blk_drew ?_ | refine blk_alloc ?_ _)); exact BK188.out⟩,⟨by repeat (first | (with_reducible first | exact HB.out | apply below_alloc | apply pw_below_drewN | apply below_drew1 | refine below_set ?_ GE188.out) | exact HB.out)⟩⟩
   case round =>
    clear H'
    try clear c1
    try clear p1
    try clear q1
    try clear hx1
    try clear c2
    try clear p2
    try clear p6
    try clear c8
    try clear c8b0
    try clear c9
    try clear c9b0
    try clear c10
    try clear c10b0
    try clear hcz12_0
    try clear hcz12_1
    try clear hcz12_2
    try clear hcz12_3
    try clear hcz12_4
    try clear hcz12_5
    try clear hcz12_6
    try clear hcz13_0
    try clear hcz13_1
    try clear hcz13_2
    try clear hcz13_3
    try clear hcz13_4
    try clear hcz13_5
    try clear hcz13_6
    try clear hcz14_0
    try clear hcz14_1
    try clear hcz14_2
    try clear hcz14_3
    try clear hcz14_4
    try clear hcz14_5
    try clear hcz14_6
    try clear hcz7_0
    try clear hcz7_1
    try clear hcz7_2
    try clear hcz7_3
    try clear hcz7_4
    try clear hcz7_5
    try clear hcz7_6
    try clear hfz12_0
    try clear hfz12_1
    try clear hfz12_2
    try clear hfz12_3
    try clear hfz12_4
    try clear hfz12_5
    try clear hfz12_6
    try clear hfz13_0
    try clear hfz13_1
    try clear hfz13_2
    try clear hfz13_3
    try clear hfz13_4
    try clear hfz13_5
    try clear hfz13_6
    try clear hfz14_0
    try clear hfz14_1
    try clear hfz14_2
    try clear hfz14_3
    try clear hfz14_4
    try clear hfz14_5
    try clear hfz14_6
    try clear hfz7_0
    try clear hfz7_1
    try clear hfz7_2
    try clear hfz7_3
    try clear hfz7_4
    try clear hfz7_5
    try clear hfz7_6
    try clear hx189_0
    try clear p1
    try clear p189
    try clear p2
    try clear p6
    try clear q1
    try clear q189
    obtain ⟨x3_2,x5_2,rfl,rfl,HA,HK2,BK188,HB⟩:=hrel
    cases gk with
    | zero => exact absurd HA.out (by simp [counterpanelaw08_Great.l1])
    | succ k2 =>
     have H:=HA.out
     clear HA
     simp only [counterpanelaw08_Great.l1] at H
     by_cases c15 : x5_2 < (l0_6.length : Int)
     ·rw [if_pos c15] at H
      have c15b0 : decide (x5_2 < (l0_6.length : Int)) = true:=decide_eq_true c15
      clear c15
      by_cases c16 : x3_2 < 4000
      ·rw [if_pos c16] at H
       have c16b0 : decide (x3_2 < 4000) = true:=decide_eq_true c16
       clear c16
       by_cases c17 : 0 ≤ x5_2
       ·rw [if_pos c17] at H
        have c17b0 : decide (0 ≤ x5_2) = true:=decide_eq_true c17
        clear c17
        obtain ⟨ji18,hji18⟩ : ∃ j_ : Int,(mn ((rdOf ByteArray.empty l0_6 x5_2).size : Int) 4000) = j_:=⟨_,rfl⟩
        replace H : (counterpanelaw08_Great.l1 k2 (wrap64 (x3_2 + (ji18))) (wrap64 (x5_2 + 1)) a0_0 a0_1 a0_2 a0_3 a0_4 l0_5 l0_6) = some r:=by first | (rw [hji18] at H; exact H) | (simp only [hji18] at H ⊢; exact H)
        have hji18_ : (if 4000 < ((rdOf ByteArray.empty l0_6 x5_2).size : Int) then 4000 else ((rdOf ByteArray.empty l0_6 x5_2).size : Int)) = ji18:=hji18
        have H':=Aside0.mk H
        clear H
        have hcz19_0 : wr.cell? ⟨gb188,0,none⟩ = some (.int .i64 a0_0):=(blk_cell BK188.out 0).trans rfl
        have hcz19_1 : wr.cell? ⟨gb188,1,none⟩ = some (.string a0_1):=(blk_cell BK188.out 1).trans rfl
        have hcz19_2 : wr.cell? ⟨gb188,2,none⟩ = some (.string a0_2):=(blk_cell BK188.out 2).trans rfl
        have hcz19_3 : wr.cell? ⟨gb188,3,none⟩ = some (.string a0_3):=(blk_cell BK188.out 3).trans rfl
        have hcz19_4 : wr.cell? ⟨gb188,4,none⟩ = some (.int .i64 a0_4):=(blk_cell BK188.out 4).trans rfl
        have hcz19_5 : wr.cell? ⟨gb188,5,none⟩ = some (.slice A0_5 l0_5.length c0_5):=(blk_cell BK188.out 5).trans rfl
        have hcz19_6 : wr.cell? ⟨gb188,6,none⟩ = some (.slice A0_6 l0_6.length c0_6):=(blk_cell BK188.out 6).trans rfl
        have hfz19_0:=blk_frozen BK188.out 0
        have hfz19_1:=blk_frozen BK188.out 1
        have hfz19_2:=blk_frozen BK188.out 2
        have hfz19_3:=blk_frozen BK188.out 3
        have hfz19_4:=blk_frozen BK188.out 4
        have hfz19_5:=blk_frozen BK188.out 5
        have hfz19_6:=blk_frozen BK188.out 6
        have p190 : 0 ≤ (x5_2 : Int):=of_decide_eq_true (by first | (with_reducible assumption) | assumption)
        have q190 : x5_2 < (l0_6.length : Int):=of_decide_eq_true (by first | (with_reducible assumption) | assumption)
        obtain ⟨ad190,e190,hx190_0⟩:=Kd.at_string HR0_6.out x5_2 p190 q190
        cases e190
        replace hx190_0:=(HB.out.cell (World.block_lt_of_cell? w _ hx190_0)).trans hx190_0
        replace p190:=eq_true p190
        replace q190:=eq_true q190
        go_wp2
        go_roundg k2
        case measure => have:=HJ4.out; have:=HK2.out; omega
        case rel => exact ⟨(wrap64 (x3_2 + (ji18))),(wrap64 (x5_2 + 1)),(by first | rfl | (simp; done) | (simp only [← hji18] <;> (first | rfl | simp)) | (simp [*]; done)),(by first | rfl | (simp; done) | (simp [*]; done)),H',⟨by have:=HJ4.out; have:=HK2.out; omega⟩,⟨by (with_reducible repeat (first | refine blk_drewN ?_ _ | refine blk_drew ?_ | refine blk_alloc ?_ _)); exact BK188.out⟩,⟨by repeat (first | (with_reducible first | exact HB.out | apply below_alloc | apply pw_below_drewN | apply below_drew1 | refine below_set ?_ GE188.out) | exact HB.out)⟩⟩
       ·rw [if_neg c17] at H
        exact absurd H (by simp)
      ·rw [if_neg c16] at H
       have c16b0 : decide (x3_2 < 4000) = false:=decide_eq_false c16
       clear c16
       obtain rfl:=Option.some.inj H
       have hcz20_0 : wr.cell? ⟨gb188,0,none⟩ = some (.int .i64 a0_0):=(blk_cell BK188.out 0).trans rfl
       have hcz20_1 : wr.cell? ⟨gb188,1,none⟩ = some (.string a0_1):=(blk_cell BK188.out 1).trans rfl
       have hcz20_2 : wr.cell? ⟨gb188,2,none⟩ = some (.string a0_2):=(blk_cell BK188.out 2).trans rfl
       have hcz20_3 : wr.cell? ⟨gb188,3,none⟩ = some (.string a0_3):=(blk_cell BK188.out 3).trans rfl
       have hcz20_4 : wr.cell? ⟨gb188,4,none⟩ = some (.int .i64 a0_4):=(blk_cell BK188.out 4).trans rfl
       have hcz20_5 : wr.cell? ⟨gb188,5,none⟩ = some (.slice A0_5 l0_5.length c0_5):=(blk_cell BK188.out 5).trans rfl
       have hcz20_6 : wr.cell? ⟨gb188,6,none⟩ = some (.slice A0_6 l0_6.length c0_6):=(blk_cell BK188.out 6).trans rfl
       have hfz20_0:=blk_frozen BK188.out 0
       have hfz20_1:=blk_frozen BK188.out 1
       have hfz20_2:=blk_frozen BK188.out 2
       have hfz20_3:=blk_frozen BK188.out 3
       have hfz20_4:=blk_frozen BK188.out 4
       have hfz20_5:=blk_frozen BK188.out 5
       have hfz20_6:=blk_frozen BK188.out 6
       go_wp2
       go_ret
       exact ⟨by first | rfl | (simp [errW_none,errW_some] <;> rfl) | (simp only [← hji2,← hji3,← hji4]; first | rfl | (simp [errW_none,errW_some] <;> rfl)) | (simp [*,errW_none,errW_some] <;> rfl),by repeat (first | (with_reducible first | exact HB.out | apply below_alloc | apply pw_below_drewN | apply below_drew1 | refine below_set ?_ GE188.out) | exact HB.out)⟩
     ·rw [if_neg c15] at H
      have c15b0 : decide (x5_2 < (l0_6.length : Int)) = false:=decide_eq_false c15
      clear c15
      obtain rfl:=Option.some.inj H
      have hcz21_0 : wr.cell? ⟨gb188,0,none⟩ = some (.int .i64 a0_0):=(blk_cell BK188.out 0).trans rfl
      have hcz21_1 : wr.cell? ⟨gb188,1,none⟩ = some (.string a0_1):=(blk_cell BK188.out 1).trans rfl
      have hcz21_2 : wr.cell? ⟨gb188,2,none⟩ = some (.string a0_2):=(blk_cell BK188.out 2).trans rfl
      have hcz21_3 : wr.cell? ⟨gb188,3,none⟩ = some (.string a0_3):=(blk_cell BK188.out 3).trans rfl
      have hcz21_4 : wr.cell? ⟨gb188,4,none⟩ = some (.int .i64 a0_4):=(blk_cell BK188.out 4).trans rfl
      have hcz21_5 : wr.cell? ⟨gb188,5,none⟩ = some (.slice A0_5 l0_5.length c0_5):=(blk_cell BK188.out 5).trans rfl
      have hcz21_6 : wr.cell? ⟨gb188,6,none⟩ = some (.slice A0_6 l0_6.length c0_6):=(blk_cell BK188.out 6).trans rfl
      have hfz21_0:=blk_frozen BK188.out 0
      have hfz21_1:=blk_frozen BK188.out 1
      have hfz21_2:=blk_frozen BK188.out 2
      have hfz21_3:=blk_frozen BK188.out 3
      have hfz21_4:=blk_frozen BK188.out 4
      have hfz21_5:=blk_frozen BK188.out 5
      have hfz21_6:=blk_frozen BK188.out 6
      go_wp2
      go_ret
      exact ⟨by first | rfl | (simp [errW_none,errW_some] <;> rfl) | (simp only [← hji2,← hji3,← hji4]; first | rfl | (simp [errW_none,errW_some] <;> rfl)) | (simp [*,errW_none,errW_some] <;> rfl),by repeat (first | (with_reducible first | exact HB.out | apply below_alloc | apply pw_below_drewN | apply below_drew1 | refine below_set ?_ GE188.out) | exact HB.out)⟩

def counterpaneref04_Within.f (a0 : ByteArray) (a1 : ByteArray) : Option (Bool):=if a0.toList = a1.toList then (some true) else (if (a0.size : Int) > (a1.size : Int) then (if 0 ≤ (a1.size : Int) then (if (a1.size : Int) ≤ (a0.size : Int) then (if (a0.extract 0 ((a1.size : Int) : Int).toNat).toList = a1.toList then (if (a1.size : Int) < (a0.size : Int) then (some ((bt a0 (a1.size : Int)) == 47)) else (none)) else (some false)) else (none)) else (none)) else (some false))
set_option maxHeartbeats 8000000 in
set_option maxRecDepth 100000 in
theorem counterpaneref04_Within.calls (a0 : ByteArray) (a1 : ByteArray) (r : Bool) (w : World) (h : counterpaneref04_Within.f a0 a1 = some r) :
  Calls Tryz.prog 74 #[.string a0,.string a1] w fun e w' => e = .returned (.bool r) ∧ Drawn0 w w':=by
 have H : (if a0.toList = a1.toList then (some true) else (if (a0.size : Int) > (a1.size : Int) then (if 0 ≤ (a1.size : Int) then (if (a1.size : Int) ≤ (a0.size : Int) then (if (a0.extract 0 ((a1.size : Int) : Int).toNat).toList = a1.toList then (if (a1.size : Int) < (a0.size : Int) then (some ((bt a0 (a1.size : Int)) == 47)) else (none)) else (some false)) else (none)) else (none)) else (some false))) = some r:=h
 clear h
 by_cases c3 : a0.toList = a1.toList
 ·rw [if_pos c3] at H
  have c3b0 : (a0.toList == a1.toList) = true:=beq_iff_eq.mpr c3
  have c3b1 : (a0.toList != a1.toList) = false:=bne_eq_false_iff_eq.mpr c3
  clear c3
  obtain rfl:=Option.some.inj H
  (try simp only [Int.toNat_natCast] at *)
  go_enter Tryz.func74,Tryz.ntmps74
  go_wp2
  go_ret
  exact ⟨by first | rfl | (simp; done) | (simp [*]; done) | (simp_all [bt]; done) | (simp [show ∀ l : List UInt8,(l != []) = !l.isEmpty from fun l => by cases l <;> rfl]; done),by repeat (first | exact Drawn0.refl _ | apply Drawn0.step)⟩
 ·rw [if_neg c3] at H
  have c3b0 : (a0.toList == a1.toList) = false:=beq_eq_false_iff_ne.mpr c3
  have c3b1 : (a0.toList != a1.toList) = true:=bne_iff_ne.mpr c3
  by_cases c4 : (a0.size : Int) > (a1.size : Int)
  ·rw [if_pos c4] at H
   have c4b0 : decide ((a1.size : Int) < (a0.size : Int)) = true:=decide_eq_true c4
   have c4b1 : decide (a1.size < a0.size) = true:=decide_eq_true (Int.ofNat_lt.mp c4)
   clear c4
   by_cases c5 : 0 ≤ (a1.size : Int)
   ·rw [if_pos c5] at H
    have c5b0:=eq_true c5
    have c5b1 : decide (0 ≤ (a1.size : Int)) = true:=decide_eq_true c5
    clear c5
    by_cases c6 : (a1.size : Int) ≤ (a0.size : Int)
    ·rw [if_pos c6] at H
     have c6b0:=eq_true c6
     have c6b1 : decide ((a1.size : Int) ≤ (a0.size : Int)) = true:=decide_eq_true c6
     clear c6
     by_cases c7 : (a0.extract 0 ((a1.size : Int) : Int).toNat).toList = a1.toList
     ·rw [if_pos c7] at H
      have c7b0 : ((a0.extract 0 ((a1.size : Int) : Int).toNat).toList == a1.toList) = true:=beq_iff_eq.mpr c7
      have c7b1 : ((a0.extract 0 ((a1.size : Int) : Int).toNat).toList != a1.toList) = false:=bne_eq_false_iff_eq.mpr c7
      clear c7
      by_cases c8 : (a1.size : Int) < (a0.size : Int)
      ·rw [if_pos c8] at H
       have c8b0 : decide ((a1.size : Int) < (a0.size : Int)) = true:=decide_eq_true c8
       have c8b1 : decide (a1.size < a0.size) = true:=decide_eq_true (Int.ofNat_lt.mp c8)
       clear c8
       obtain rfl:=Option.some.inj H
       have p9 : 0 ≤ ((a1.size : Int) : Int):=of_decide_eq_true (by first | (with_reducible assumption) | assumption)
       have q9 : (a1.size : Int) < (a0.size : Int):=of_decide_eq_true (by first | (with_reducible assumption) | assumption)
       have hx9:=bt_at a0 (a1.size : Int)
       replace p9:=eq_true p9
       replace q9:=eq_true q9
       (try simp only [Int.toNat_natCast] at *)
       go_enter Tryz.func74,Tryz.ntmps74
       go_wp2
       go_ret
       exact ⟨by first | rfl | (simp; done) | (simp [*]; done) | (simp_all [bt]; done) | (simp [show ∀ l : List UInt8,(l != []) = !l.isEmpty from fun l => by cases l <;> rfl]; done),by repeat (first | exact Drawn0.refl _ | apply Drawn0.step)⟩
      ·rw [if_neg c8] at H
       exact absurd H (by simp)
     ·rw [if_neg c7] at H
      have c7b0 : ((a0.extract 0 ((a1.size : Int) : Int).toNat).toList == a1.toList) = false:=beq_eq_false_iff_ne.mpr c7
      have c7b1 : ((a0.extract 0 ((a1.size : Int) : Int).toNat).toList != a1.toList) = true:=bne_iff_ne.mpr c7
      obtain rfl:=Option.some.inj H
      (try simp only [Int.toNat_natCast] at *)
      go_enter Tryz.func74,Tryz.ntmps74
      go_wp2
      go_ret
      exact ⟨by first | rfl | (simp; done) | (simp [*]; done) | (simp_all [bt]; done) | (simp [show ∀ l : List UInt8,(l != []) = !l.isEmpty from fun l => by cases l <;> rfl]; done),by repeat (first | exact Drawn0.refl _ | apply Drawn0.step)⟩
    ·rw [if_neg c6] at H
     exact absurd H (by simp)
   ·rw [if_neg c5] at H
    exact absurd H (by simp)
  ·rw [if_neg c4] at H
   have c4b0 : decide ((a1.size : Int) < (a0.size : Int)) = false:=decide_eq_false c4
   have c4b1 : decide (a1.size < a0.size) = false:=decide_eq_false (fun h => c4 (Int.ofNat_lt.mpr h))
   clear c4
   obtain rfl:=Option.some.inj H
   (try simp only [Int.toNat_natCast] at *)
   go_enter Tryz.func74,Tryz.ntmps74
   go_wp2
   go_ret
   exact ⟨by first | rfl | (simp; done) | (simp [*]; done) | (simp_all [bt]; done) | (simp [show ∀ l : List UInt8,(l != []) = !l.isEmpty from fun l => by cases l <;> rfl]; done),by repeat (first | exact Drawn0.refl _ | apply Drawn0.step)⟩

def counterpaneref04_Apart.f (a0 : ByteArray) (a1 : ByteArray) : Option (Bool):=(counterpaneref04_Within.f a0 a1).bind fun t191 => (if t191 = true then (some false) else ((counterpaneref04_Within.f a1 a0).bind fun t192 => (some (!t192))))
set_option maxHeartbeats 8000000 in
set_option maxRecDepth 100000 in
theorem counterpaneref04_Apart.calls (a0 : ByteArray) (a1 : ByteArray) (r : Bool) (w : World) (h : counterpaneref04_Apart.f a0 a1 = some r) :
  Calls Tryz.prog 32 #[.string a0,.string a1] w fun e w' => e = .returned (.bool r) ∧ Drawn0 w w':=by
 have H : ((counterpaneref04_Within.f a0 a1).bind fun t191 => (if t191 = true then (some false) else ((counterpaneref04_Within.f a1 a0).bind fun t192 => (some (!t192))))) = some r:=h
 clear h
 replace H:=Option.bind_eq_some_iff.mp H
 obtain ⟨t191,A30,H⟩:=H
 replace H : (if t191 = true then (some false) else ((counterpaneref04_Within.f a1 a0).bind fun t192 => (some (!t192)))) = some r:=H
 have A3:=Aside0.mk A30
 clear A30
 by_cases c4 : t191 = true
 ·subst c4
  have H1 : (some false) = some r:=by rw [if_pos rfl] at H; exact H
  clear H
  have H:=H1
  clear H1
  obtain rfl:=Option.some.inj H
  go_enter Tryz.func32,Tryz.ntmps32
  go_wp2_with (first | ((with_reducible refine gate_callee (f:=74) rfl ?_); refine goesL_ (some 7) rfl rfl Tryz.func74 (by kernel_rfl) rfl #[.string a0,.string a1] rfl (by (try simp only [List.map_toArray,List.map_cons,List.map_nil]); first | done | rfl | (simp only [List.length_drop,List.length_take]; rfl)) ?_; (with_reducible refine (counterpaneref04_Within.calls a0 a1 true _ A3.out).mono ?_); rintro e w' ⟨rfl,⟨nd,rfl⟩⟩; refine ⟨_,rfl,?_⟩))
  go_ret
  exact ⟨by first | rfl | (simp; done) | (simp [*]; done) | (simp [show ∀ l : List UInt8,(l != []) = !l.isEmpty from fun l => by cases l <;> rfl]; done),by repeat (first | exact Drawn0.refl _ | apply Drawn0.step)⟩
 ·replace c4:=Bool.eq_false_iff.mpr c4
  subst c4
  have H1 : ((counterpaneref04_Within.f a1 a0).bind fun t192 => (some (!t192))) = some r:=by rw [if_neg (show ¬ (false = true) by decide)] at H; exact H
  clear H
  have H:=H1
  clear H1
  replace H:=Option.bind_eq_some_iff.mp H
  obtain ⟨t192,A50,H⟩:=H
  replace H : (some (!t192)) = some r:=H
  have A5:=Aside0.mk A50
  clear A50
  obtain rfl:=Option.some.inj H
  go_enter Tryz.func32,Tryz.ntmps32
  go_wp2_with (first | ((with_reducible refine gate_callee (f:=74) rfl ?_); refine goesL_ (some 7) rfl rfl Tryz.func74 (by kernel_rfl) rfl #[.string a0,.string a1] rfl (by (try simp only [List.map_toArray,List.map_cons,List.map_nil]); first | done | rfl | (simp only [List.length_drop,List.length_take]; rfl)) ?_; (with_reducible refine (counterpaneref04_Within.calls a0 a1 false _ A3.out).mono ?_); rintro e w' ⟨rfl,⟨nd,rfl⟩⟩; refine ⟨_,rfl,?_⟩) | (go_at_call 74; (with_reducible refine (counterpaneref04_Within.calls a1 a0 t192 _ A5.out).mono ?_); rintro e w' ⟨rfl,⟨nd,rfl⟩⟩))
  go_ret
  exact ⟨by first | rfl | (simp; done) | (simp [*]; done) | (simp [show ∀ l : List UInt8,(l != []) = !l.isEmpty from fun l => by cases l <;> rfl]; done),by repeat (first | exact Drawn0.refl _ | apply Drawn0.step)⟩

end Go.Proofs.YthhohbidjhcjeaaGreatDoor.Q
namespace Go.Proofs
open Go.Shelf
def Tryz.lays169_ren : Go.Shelf.Ren:=⟨fun | 169 => 140 | n => n,fun | 70 => 147 | 9 => 9 | 0 => 0 | 72 => 150 | 37 => 148 | 127 => 176 | 3 => 3 | 5 => 5 | n => n,fun | n => n⟩
theorem Tryz.Builder_Extra_169 : Builder.Extra Tryz.prog Tryz.lays169_ren:={
 sizeBuilder:=by kernel_rfl
 liesBuilder:=by kernel_rfl
 t5:=Tryz.underlying5
 a5:=Tryz.isAgg5
 z5:=Tryz.sizeOf5
 v5:=Tryz.zeroValue5
 infoByte:=by kernel_rfl
 cellsByte:=by kernel_rfl
 sizeByte:=by kernel_rfl
 neB5:=by decide }
def Tryz.lays119_ren : Go.Shelf.Ren:=⟨fun | 119 => 193 | n => n,fun | 21 => 21 | 4 => 4 | n => n,fun | n => n⟩
theorem Tryz.lays119 : Go.Proofs.Lays.n119 Tryz.prog Tryz.lays119_ren:={
 mixed:=by kernel_rfl
 f119:=Tryz.func193.trans (congrArg some (by kernel_rfl))
 t4:=Tryz.underlying4
 a4:=Tryz.isAgg4
 z4:=Tryz.sizeOf4
 v4:=Tryz.zeroValue4
 t21:=Tryz.underlying21
 a21:=Tryz.isAgg21
 z21:=Tryz.sizeOf21
 v21:=Tryz.zeroValue21 }
theorem Tryz.utf8_ValidRune (r : Int) (w : World) :
  Calls Tryz.prog 193 #[.int .i32 r] w fun e w' => e = .returned (.bool (Lib.validRune r)) ∧ w' = w:=Any.utf8_ValidRune Tryz.lays119 r w
def Tryz.lays106_ren : Go.Shelf.Ren:=⟨fun | 106 => 143 | 213 => 173 | 265 => 189 | n => n,fun | 9 => 9 | 3 => 3 | n => n,fun | n => n⟩
theorem Tryz.lays106 : Go.Proofs.Lays.n106 Tryz.prog Tryz.lays106_ren:={
 mixed:=by kernel_rfl
 f106:=Tryz.func143.trans (congrArg some (by kernel_rfl))
 f213:=Tryz.func173.trans (congrArg some (by kernel_rfl))
 f265:=Tryz.func189.trans (congrArg some (by kernel_rfl))
 t3:=Tryz.underlying3
 a3:=Tryz.isAgg3
 z3:=Tryz.sizeOf3
 v3:=Tryz.zeroValue3
 t9:=Tryz.underlying9
 a9:=Tryz.isAgg9
 z9:=Tryz.sizeOf9
 v9:=Tryz.zeroValue9 }
open Go.RowKit in
theorem Tryz.strings_Compare (a b : ByteArray) (w : World) :
  Calls Tryz.prog 143 #[.string a,.string b] w fun e w' => e = .returned (.int .i64 (Lib.compareBytes a.data.toList b.data.toList)) ∧ w' = w:=Any.strings_Compare Tryz.lays106 a b w
def Tryz.lays137_ren : Go.Shelf.Ren:=⟨fun | 137 => 192 | 217 => 196 | 266 => 201 | n => n,fun | 9 => 9 | 5 => 5 | 3 => 3 | n => n,fun | n => n⟩
theorem Tryz.lays137 : Go.Proofs.Lays.n137 Tryz.prog Tryz.lays137_ren:={
 mixed:=by kernel_rfl
 f137:=Tryz.func192.trans (congrArg some (by kernel_rfl))
 f217:=Tryz.func196.trans (congrArg some (by kernel_rfl))
 f266:=Tryz.func201.trans (congrArg some (by kernel_rfl))
 t3:=Tryz.underlying3
 a3:=Tryz.isAgg3
 z3:=Tryz.sizeOf3
 v3:=Tryz.zeroValue3
 t5:=Tryz.underlying5
 a5:=Tryz.isAgg5
 z5:=Tryz.sizeOf5
 v5:=Tryz.zeroValue5
 t9:=Tryz.underlying9
 a9:=Tryz.isAgg9
 z9:=Tryz.sizeOf9
 v9:=Tryz.zeroValue9 }
open Go.RowKit in
theorem Tryz.strings_IndexByte (s : ByteArray) (c : Int) (w : World) :
  Calls Tryz.prog 192 #[.string s,.int .u8 c] w fun e w' => e = .returned (.int .i64 (Lib.indexByte s.data.toList c.toNat.toUInt8)) ∧ w' = w:=Any.strings_IndexByte Tryz.lays137 s c w
def Tryz.lays210_ren : Go.Shelf.Ren:=⟨fun | 210 => 159 | 206 => 182 | n => n,fun | 9 => 9 | 4 => 4 | 3 => 3 | n => n,fun | n => n⟩
theorem Tryz.lays210 : Go.Proofs.Lays.n210 Tryz.prog Tryz.lays210_ren:={
 mixed:=by kernel_rfl
 f206:=Tryz.func182.trans (congrArg some (by kernel_rfl))
 f210:=Tryz.func159.trans (congrArg some (by kernel_rfl))
 t3:=Tryz.underlying3
 a3:=Tryz.isAgg3
 z3:=Tryz.sizeOf3
 v3:=Tryz.zeroValue3
 t4:=Tryz.underlying4
 a4:=Tryz.isAgg4
 z4:=Tryz.sizeOf4
 v4:=Tryz.zeroValue4
 t9:=Tryz.underlying9
 a9:=Tryz.isAgg9
 z9:=Tryz.sizeOf9
 v9:=Tryz.zeroValue9 }
open Go.RowKit in
theorem Tryz.stringslite_CutPrefix (s p : ByteArray) (w : World) :
  Calls Tryz.prog 159 #[.string s,.string p] w fun e w' => e = .returned (.tuple #[.string ⟨(Lib.trimPrefix s.data.toList p.data.toList).toArray⟩,.bool (Lib.hasPrefix s.data.toList p.data.toList)]) ∧ w' = w:=Any.stringslite_CutPrefix Tryz.lays210 s p w
def Tryz.lays103_ren : Go.Shelf.Ren:=⟨fun | 103 => 134 | 210 => 159 | 206 => 182 | n => n,fun | 9 => 9 | 4 => 4 | 24 => 44 | 3 => 3 | n => n,fun | n => n⟩
theorem Tryz.lays103 : Go.Proofs.Lays.n103 Tryz.prog Tryz.lays103_ren:={
 mixed:=by kernel_rfl
 f103:=Tryz.func134.trans (congrArg some (by kernel_rfl))
 f206:=Tryz.func182.trans (congrArg some (by kernel_rfl))
 f210:=Tryz.func159.trans (congrArg some (by kernel_rfl))
 t3:=Tryz.underlying3
 a3:=Tryz.isAgg3
 z3:=Tryz.sizeOf3
 v3:=Tryz.zeroValue3
 t4:=Tryz.underlying4
 a4:=Tryz.isAgg4
 z4:=Tryz.sizeOf4
 v4:=Tryz.zeroValue4
 t9:=Tryz.underlying9
 a9:=Tryz.isAgg9
 z9:=Tryz.sizeOf9
 v9:=Tryz.zeroValue9
 t24:=Tryz.underlying44
 a24:=Tryz.isAgg44
 z24:=Tryz.sizeOf44
 v24:=Tryz.zeroValue44 }
open Go.RowKit in
theorem Tryz.strings_CutPrefix (s p : ByteArray) (w : World) :
  Calls Tryz.prog 134 #[.string s,.string p] w fun e w' => e = .returned (.tuple #[.string ⟨(Lib.trimPrefix s.data.toList p.data.toList).toArray⟩,.bool (Lib.hasPrefix s.data.toList p.data.toList)]) ∧ w' = w:=Any.strings_CutPrefix Tryz.lays103 s p w
def Tryz.lays143_ren : Go.Shelf.Ren:=⟨fun | 143 => 149 | 219 => 178 | 217 => 196 | 225 => 195 | 224 => 194 | 267 => 197 | 266 => 201 | 314 => 202 | n => n,fun | 9 => 9 | 3 => 3 | 4 => 4 | 5 => 5 | 46 => 158 | 146 => 217 | 51 => 185 | n => n,fun | 1 => 0 | n => n⟩
theorem Tryz.lays143 : Go.Proofs.Lays.n143 Tryz.prog Tryz.lays143_ren:={
 mixed:=by kernel_rfl
 f143:=Tryz.func149.trans (congrArg some (by kernel_rfl))
 f217:=Tryz.func196.trans (congrArg some (by kernel_rfl))
 f219:=Tryz.func178.trans (congrArg some (by kernel_rfl))
 f224:=Tryz.func194.trans (congrArg some (by kernel_rfl))
 f225:=Tryz.func195.trans (congrArg some (by kernel_rfl))
 f266:=Tryz.func201.trans (congrArg some (by kernel_rfl))
 f267:=Tryz.func197.trans (congrArg some (by kernel_rfl))
 f314:=Tryz.func202.trans (congrArg some (by kernel_rfl))
 t3:=Tryz.underlying3
 a3:=Tryz.isAgg3
 z3:=Tryz.sizeOf3
 v3:=Tryz.zeroValue3
 t4:=Tryz.underlying4
 a4:=Tryz.isAgg4
 z4:=Tryz.sizeOf4
 v4:=Tryz.zeroValue4
 t5:=Tryz.underlying5
 a5:=Tryz.isAgg5
 z5:=Tryz.sizeOf5
 v5:=Tryz.zeroValue5
 t9:=Tryz.underlying9
 a9:=Tryz.isAgg9
 z9:=Tryz.sizeOf9
 v9:=Tryz.zeroValue9
 t46:=Tryz.underlying158
 a46:=Tryz.isAgg158
 z46:=Tryz.sizeOf158
 v46:=Tryz.zeroValue158
 t51:=Tryz.underlying185
 a51:=Tryz.isAgg185
 z51:=Tryz.sizeOf185
 v51:=Tryz.zeroValue185
 t146:=Tryz.underlying217
 a146:=Tryz.isAgg217
 z146:=Tryz.sizeOf217
 v146:=Tryz.zeroValue217
 g1:=by kernel_rfl }
open Go.RowKit Go.Lib in
theorem Tryz.strings_Index_one (s : ByteArray) (c : UInt8) (w : World) :
  Calls Tryz.prog 149 #[.string s,.string ⟨#[c]⟩] w fun e w' => e = .returned (.int .i64 (Lib.indexByte s.data.toList c)) ∧ w' = w:=Any.strings_Index_one Tryz.lays143 s c w
def Tryz.lays144_ren : Go.Shelf.Ren:=⟨fun | 144 => 116 | 143 => 149 | 219 => 178 | 217 => 196 | 225 => 195 | 224 => 194 | 267 => 197 | 266 => 201 | 314 => 202 | n => n,fun | 9 => 9 | 4 => 4 | 3 => 3 | 5 => 5 | 46 => 158 | 146 => 217 | 51 => 185 | n => n,fun | 1 => 0 | n => n⟩
theorem Tryz.lays144 : Go.Proofs.Lays.n144 Tryz.prog Tryz.lays144_ren:={
 mixed:=by kernel_rfl
 f143:=Tryz.func149.trans (congrArg some (by kernel_rfl))
 f144:=Tryz.func116.trans (congrArg some (by kernel_rfl))
 f217:=Tryz.func196.trans (congrArg some (by kernel_rfl))
 f219:=Tryz.func178.trans (congrArg some (by kernel_rfl))
 f224:=Tryz.func194.trans (congrArg some (by kernel_rfl))
 f225:=Tryz.func195.trans (congrArg some (by kernel_rfl))
 f266:=Tryz.func201.trans (congrArg some (by kernel_rfl))
 f267:=Tryz.func197.trans (congrArg some (by kernel_rfl))
 f314:=Tryz.func202.trans (congrArg some (by kernel_rfl))
 t3:=Tryz.underlying3
 a3:=Tryz.isAgg3
 z3:=Tryz.sizeOf3
 v3:=Tryz.zeroValue3
 t4:=Tryz.underlying4
 a4:=Tryz.isAgg4
 z4:=Tryz.sizeOf4
 v4:=Tryz.zeroValue4
 t5:=Tryz.underlying5
 a5:=Tryz.isAgg5
 z5:=Tryz.sizeOf5
 v5:=Tryz.zeroValue5
 t9:=Tryz.underlying9
 a9:=Tryz.isAgg9
 z9:=Tryz.sizeOf9
 v9:=Tryz.zeroValue9
 t46:=Tryz.underlying158
 a46:=Tryz.isAgg158
 z46:=Tryz.sizeOf158
 v46:=Tryz.zeroValue158
 t51:=Tryz.underlying185
 a51:=Tryz.isAgg185
 z51:=Tryz.sizeOf185
 v51:=Tryz.zeroValue185
 t146:=Tryz.underlying217
 a146:=Tryz.isAgg217
 z146:=Tryz.sizeOf217
 v146:=Tryz.zeroValue217
 g1:=by kernel_rfl }
open Go.RowKit Go.Lib in
theorem Tryz.strings_Contains_one (s : ByteArray) (c : UInt8) (w : World) :
  Calls Tryz.prog 116 #[.string s,.string ⟨#[c]⟩] w fun e w' => e = .returned (.bool (decide (0 ≤ Lib.indexByte s.data.toList c))) ∧ w' = w:=Any.strings_Contains_one Tryz.lays144 s c w
def Tryz.lays149_ren : Go.Shelf.Ren:=⟨fun | 149 => 129 | 222 => 157 | n => n,fun | 9 => 9 | 5 => 5 | 3 => 3 | 4 => 4 | n => n,fun | n => n⟩
theorem Tryz.lays149 : Go.Proofs.Lays.n149 Tryz.prog Tryz.lays149_ren:={
 mixed:=by kernel_rfl
 f149:=Tryz.func129.trans (congrArg some (by kernel_rfl))
 f222:=Tryz.func157.trans (congrArg some (by kernel_rfl))
 t3:=Tryz.underlying3
 a3:=Tryz.isAgg3
 z3:=Tryz.sizeOf3
 v3:=Tryz.zeroValue3
 t4:=Tryz.underlying4
 a4:=Tryz.isAgg4
 z4:=Tryz.sizeOf4
 v4:=Tryz.zeroValue4
 t5:=Tryz.underlying5
 a5:=Tryz.isAgg5
 z5:=Tryz.sizeOf5
 v5:=Tryz.zeroValue5
 t9:=Tryz.underlying9
 a9:=Tryz.isAgg9
 z9:=Tryz.sizeOf9
 v9:=Tryz.zeroValue9 }
open Go.RowKit Go.Lib in
theorem Tryz.strings_LastIndexByte (s : ByteArray) (c : Int) (hs : s.size < 4611686018427387904) (w : World) :
  Calls Tryz.prog 129 #[.string s,.int .u8 c] w fun e w' => e = .returned (.int .i64 (Lib.lastIndexByte s c)) ∧ w' = w:=Any.strings_LastIndexByte Tryz.lays149 s c hs w
def Tryz.laysGw17_ren : Go.Shelf.Ren:=⟨fun | 17 => 145 | 15 => 176 | 20 => 191 | n => n,fun | 9 => 9 | 23 => 163 | 4 => 4 | 3 => 3 | 0 => 0 | 21 => 21 | n => n,fun | n => n⟩
theorem Tryz.laysGw17 : Go.Proofs.LaysGw.n17 Tryz.prog Tryz.laysGw17_ren:={
 mixed:=by kernel_rfl
 f15:=Tryz.func176.trans (congrArg some (by kernel_rfl))
 f17:=Tryz.func145.trans (congrArg some (by kernel_rfl))
 f20:=Tryz.func191.trans (congrArg some (by kernel_rfl))
 t0:=Tryz.underlying0
 a0:=Tryz.isAgg0
 z0:=Tryz.sizeOf0
 v0:=Tryz.zeroValue0
 i0:=by kernel_rfl
 t3:=Tryz.underlying3
 a3:=Tryz.isAgg3
 z3:=Tryz.sizeOf3
 v3:=Tryz.zeroValue3
 i3:=by kernel_rfl
 t4:=Tryz.underlying4
 a4:=Tryz.isAgg4
 z4:=Tryz.sizeOf4
 v4:=Tryz.zeroValue4
 i4:=by kernel_rfl
 t9:=Tryz.underlying9
 a9:=Tryz.isAgg9
 z9:=Tryz.sizeOf9
 v9:=Tryz.zeroValue9
 i9:=by kernel_rfl
 t21:=Tryz.underlying21
 a21:=Tryz.isAgg21
 z21:=Tryz.sizeOf21
 v21:=Tryz.zeroValue21
 i21:=by kernel_rfl
 t23:=Tryz.underlying163
 a23:=Tryz.isAgg163
 z23:=Tryz.sizeOf163
 v23:=Tryz.zeroValue163
 i23:=by kernel_rfl }
def Tryz.lays206_ren : Go.Shelf.Ren:=⟨fun | 206 => 182 | n => n,fun | 9 => 9 | 4 => 4 | 3 => 3 | n => n,fun | n => n⟩
theorem Tryz.lays206 : Go.Proofs.Lays.n206 Tryz.prog Tryz.lays206_ren:={
 mixed:=by kernel_rfl
 f206:=Tryz.func182.trans (congrArg some (by kernel_rfl))
 t3:=Tryz.underlying3
 a3:=Tryz.isAgg3
 z3:=Tryz.sizeOf3
 v3:=Tryz.zeroValue3
 t4:=Tryz.underlying4
 a4:=Tryz.isAgg4
 z4:=Tryz.sizeOf4
 v4:=Tryz.zeroValue4
 t9:=Tryz.underlying9
 a9:=Tryz.isAgg9
 z9:=Tryz.sizeOf9
 v9:=Tryz.zeroValue9 }
open Go.RowKit Go.Lib in
theorem Tryz.stringslite_HasPrefix (s p : ByteArray) (w : World) :
  Calls Tryz.prog 182 #[.string s,.string p] w fun e w' => e = .returned (.bool (Lib.hasPrefix s.data.toList p.data.toList)) ∧ w' = w:=Any.stringslite_HasPrefix Tryz.lays206 s p w
def Tryz.lays151_ren : Go.Shelf.Ren:=⟨fun | 151 => 147 | 152 => 177 | 137 => 192 | 119 => 193 | 224 => 194 | 225 => 195 | 217 => 196 | 266 => 201 | n => n,fun | 9 => 9 | 21 => 21 | 4 => 4 | 3 => 3 | 5 => 5 | 0 => 0 | 46 => 158 | n => n,fun | n => n⟩
theorem Tryz.lays151 : Go.Proofs.Lays.n151 Tryz.prog Tryz.lays151_ren:={
 mixed:=by kernel_rfl
 f119:=Tryz.func193.trans (congrArg some (by kernel_rfl))
 f137:=Tryz.func192.trans (congrArg some (by kernel_rfl))
 f151:=Tryz.func147.trans (congrArg some (by kernel_rfl))
 f152:=Tryz.func177.trans (congrArg some (by kernel_rfl))
 f217:=Tryz.func196.trans (congrArg some (by kernel_rfl))
 f224:=Tryz.func194.trans (congrArg some (by kernel_rfl))
 f225:=Tryz.func195.trans (congrArg some (by kernel_rfl))
 f266:=Tryz.func201.trans (congrArg some (by kernel_rfl))
 t0:=Tryz.underlying0
 a0:=Tryz.isAgg0
 z0:=Tryz.sizeOf0
 v0:=Tryz.zeroValue0
 t3:=Tryz.underlying3
 a3:=Tryz.isAgg3
 z3:=Tryz.sizeOf3
 v3:=Tryz.zeroValue3
 t4:=Tryz.underlying4
 a4:=Tryz.isAgg4
 z4:=Tryz.sizeOf4
 v4:=Tryz.zeroValue4
 t5:=Tryz.underlying5
 a5:=Tryz.isAgg5
 z5:=Tryz.sizeOf5
 v5:=Tryz.zeroValue5
 t9:=Tryz.underlying9
 a9:=Tryz.isAgg9
 z9:=Tryz.sizeOf9
 v9:=Tryz.zeroValue9
 t21:=Tryz.underlying21
 a21:=Tryz.isAgg21
 z21:=Tryz.sizeOf21
 v21:=Tryz.zeroValue21
 t46:=Tryz.underlying158
 a46:=Tryz.isAgg158
 z46:=Tryz.sizeOf158
 v46:=Tryz.zeroValue158 }
open Go.RowKit Go.Lib in
theorem Tryz.strings_ContainsRune_ascii (s : ByteArray) (r : Int) (w : World) (h0 : 0 ≤ r) (h1 : r < 128) :
  Calls Tryz.prog 147 #[.string s,.int .i32 r] w fun e w' => e = .returned (.bool (decide (0 ≤ Lib.indexByte s.data.toList r.toNat.toUInt8))) ∧ w' = w:=Any.strings_ContainsRune_ascii Tryz.lays151 s r w h0 h1
open Go.RowKit Go.Lib in
theorem Tryz.strings_ContainsFunc_grows (g : Nat) (lb : Array Value) (eg : ∀ args w,(callFunc g args).run Tryz.prog w = .ok (.enter g args) w) (p : Nat → Bool) (s : ByteArray) (w : World) (hp : PredGrows Tryz.prog g lb p w) :
  Calls Tryz.prog 145 #[.string s,.func (.func g) #[] lb] w fun e w' => e = .returned (.bool (decide (0 ≤ Lib.idxFunc p true s))) ∧ Below w.heap.size w w':=Any.strings_ContainsFunc_grows Tryz.laysGw17 g lb eg p s w hp
def Tryz.lays110_ren : Go.Shelf.Ren:=⟨fun | 110 => 102 | 109 => 137 | n => n,fun | 31 => 23 | 9 => 9 | 4 => 4 | 3 => 3 | 0 => 0 | n => n,fun | n => n⟩
theorem Tryz.lays110 : Go.Proofs.Lays.n110 Tryz.prog Tryz.lays110_ren:={
 mixed:=by kernel_rfl
 f109:=Tryz.func137.trans (congrArg some (by kernel_rfl))
 f110:=Tryz.func102.trans (congrArg some (by kernel_rfl))
 t0:=Tryz.underlying0
 a0:=Tryz.isAgg0
 z0:=Tryz.sizeOf0
 v0:=Tryz.zeroValue0
 t3:=Tryz.underlying3
 a3:=Tryz.isAgg3
 z3:=Tryz.sizeOf3
 v3:=Tryz.zeroValue3
 t4:=Tryz.underlying4
 a4:=Tryz.isAgg4
 z4:=Tryz.sizeOf4
 v4:=Tryz.zeroValue4
 t9:=Tryz.underlying9
 a9:=Tryz.isAgg9
 z9:=Tryz.sizeOf9
 v9:=Tryz.zeroValue9
 t31:=Tryz.underlying23
 a31:=Tryz.isAgg23
 z31:=Tryz.sizeOf23
 v31:=Tryz.zeroValue23 }
open Go.Lib in
theorem Tryz.slices_Contains_string (b off n c : Nat) (zs : List ByteArray) (x : ByteArray) (w : World) (hz : n ≤ zs.length) (hbig : n ≤ 9223372036854775807) (hc : ∀ j,j < zs.length → w.cell? ⟨b,off + j,none⟩ = some (.string (zs.getD j ByteArray.empty))) :
  Calls Tryz.prog 102 #[.slice (some ⟨b,off,none⟩) n c,.string x] w fun e w' => e = .returned (.bool (Lib.containsS (zs.take n) x)) ∧ w' = w:=Any.slices_Contains_string Tryz.lays110 b off n c zs x w hz hbig hc
open Go.Lib in
theorem Tryz.slices_Contains_string_empty (a : Option Addr) (c : Nat) (x : ByteArray) (w : World) :
  Calls Tryz.prog 102 #[.slice a 0 c,.string x] w fun e w' => e = .returned (.bool false) ∧ w' = w:=Any.slices_Contains_string_empty Tryz.lays110 a c x w
end Go.Proofs
namespace Go.Proofs.YthhohbidjhcjeaaGreatDoor.RB
open Go Go.RowKit
variable {F : Fence} {n : Nat} {P : Program}

def AbidesZ {β : Type} (Z : Nat → Prop) (B : Nat) (J : β → World → Prop) : Prop :=
 ∀ (s : β) (W W' : World) (row : Option Nat),J s W → W.grownBy W' row → (∀ r,row = some r → (B ≤ r ∧ ∃ o : Obj,W.heap[r]? = some o ∧ o.isWalk = true) ∨ Z r) → J s W'
def OwnZ {β : Type} (Z : Nat → Prop) (B : Nat) (I : β → World → Prop) : Prop :=
 ∀ (s : β) (W W' : World) (row : Option Nat),I s W → W.grownBy W' row → (∀ r,row = some r → (B ≤ r ∧ ∃ o : Obj,W.heap[r]? = some o ∧ o.isCells = false) ∨ Z r) → I s W'
theorem OwnZ.from {β : Type} {Z : Nat → Prop} {B : Nat} {I : β → World → Prop} (h : OwnZ Z B I) : OwnFrom B I:=fun s W W' row hs hg hr => h s W W' row hs hg (fun r e => .inl (hr r e))
def SeqZ {α : Type} (F : Fence) (n : Nat) (P : Program) (g : Nat) (lb : Array Value) (encs : α → Array Value) (Kp : World → World → Prop) (Z : Nat → Prop) (S Sp : List α → Prop) (N : Nat) (w : World) : Prop :=
 ∀ (l : Nat) (J Jx : List α → World → Prop) (W : World),Below w.heap.size w W → AbidesZ Z W.heap.size J → AbidesZ Z W.heap.size Jx →
  (∀ pre x W1,J pre W1 → pre.length < N → YieldAt F (n - 1) P l (encs x) W1 fun e W' =>
   (e = .returned (.bool true) ∧ J (pre ++ [x]) W' ∧ Kp W1 W') ∨ (e = .returned (.bool false) ∧ Jx (pre ++ [x]) W')) →
  J [] W →
  CallsIn F n P g (#[.func (.yield l) #[] #[]] ++ lb) W fun e W' => (∃ v,e = .returned v) ∧ ((∃ xs,S xs ∧ J xs W') ∨ (∃ pre,Sp pre ∧ Jx pre W'))

def postZ {α : Type} (B : Nat) (Kp : World → World → Prop) (I : List α → World → Prop) (Ix : Code → List α → World → Prop) (xs : List α) (W : World) : Exit → Act → World → Prop
 | .normal,_,W' => KeepsFrom B W W' ∧ Kp W W' ∧ I xs W'
 | .ret,_,W' => KeepsFrom B W W' ∧ Ix .ret xs W'
 | _,_,_ => False

theorem wpIn_rangeFunc_boxes {α : Type} {g : Operand} {ps : Array Tmp} {assign body : Code} {Q : Exit → Act → World → Prop} {a : Act} {w : World}
  (hro : F.round = none) (h1 : 1 ≤ n) {gf : Nat} {lb : Array Value} (hg : a.eval g = .func (.func gf) #[] lb) (hFg : F.fn gf) (eg : ∀ args w,(callFunc gf args).run P w = .ok (.enter gf args) w)
  {encs : α → Array Value} {Kp : World → World → Prop} {Z : Nat → Prop} {S Sp : List α → Prop} {N : Nat} {w0 : World} (hseq : SeqZ F (n - 1) P gf lb encs Kp Z S Sp N w0) (hZ : ∀ r,Z r → r < w.heap.size)
  (hKt : ∀ {A B C : World},Kp A B → Kp B C → Kp A C) (hKb : ∀ (W : World) (l : Nat) (o o' : Obj),w.heap.size ≤ l → W.heap[l]? = some o → o.isCells = false → o.isWalk = false → Kp W (W.putObj l o')) (hb0 : Below w0.heap.size w0 w) (hps : ∀ x,(encs x).size = ps.size)
  (I : List α → World → Prop) (Ix : Code → List α → World → Prop) (hI : OwnZ Z w.heap.size I) (hIx : ∀ c,OwnZ Z w.heap.size (Ix c)) (h0 : I [] w) (a₁ : α → Act)
  (hassign : ∀ (l : Nat) (x : α) (W : World) (K : Act → World → Prop),K (a₁ x) W →
   assign.wpIn (F.inRound l) (n - 1 - 1) P (Exit.then K (fun _ _ _ => False)) { tmps:=(ps.zip (encs x)).foldl (fun t (p,v) => t.setIfInBounds p v) a.tmps,defers:=[] } W)
  (hbody : ∀ (l : Nat) (pre : List α) (x : α) (W : World),I pre W → pre.length < N → body.wpIn (F.inRound l) (n - 1 - 1) P (postZ w.heap.size Kp I Ix (pre ++ [x]) W) (a₁ x) W)
  (hdone : ∀ (D : Nat) (xs : List α) (W : World),w.heap.size ≤ D → S xs → I xs W → W.heap[D]? = some (.deferred (some [])) → Q .normal { a with defers:={ target:=.collected D,args:=#[] } :: a.defers } W)
  (hstop : ∀ (D : Nat) (pre : List α) (W : World),w.heap.size ≤ D → Sp pre → Ix .ret pre W → W.heap[D]? = some (.deferred (some [])) → (Code.ret).wpIn F n P Q { a with defers:={ target:=.collected D,args:=#[] } :: a.defers } W) :
  (Code.rangeFunc g ps assign body).wpIn F n P Q a w:=by
 refine wpIn_rangeFunc fun fn hfn => ?_
 rw [hro]
  -- the two blocks of book-keeping: the deferred calls, the loop's record
 obtain ⟨rec,hrec⟩ : ∃ rec : LoopState → Option Code → Loop,rec = fun st pe => { state:=st,pending:=pe,fn,tmps:=a.tmps,params:=ps,assign,body,defers:=w.heap.size }:=⟨_,rfl⟩
 obtain ⟨V,hV⟩ : ∃ V,(w.alloc (.deferred (some []))).alloc (.loop (rec .ready none)) = V:=⟨_,rfl⟩
 have vL : V.heap[w.heap.size + 1]? = some (.loop (rec .ready none)):=by
  have h:=World.alloc_heap_new (w.alloc (.deferred (some []))) (.loop (rec .ready none))
  rw [World.size_alloc,hV] at h
  exact h
 have vD : V.heap[w.heap.size]? = some (.deferred (some [])):=by
  rw [← hV]
  exact (Below.heap_alloc _ _ _ (by simp)).trans (World.alloc_heap_new w _)
 have vS : V.heap.size = w.heap.size + 2:=by rw [← hV]; simp
 have vI : I [] V:=by rw [← hV]; exact hI.from.alloc _ (hI.from.alloc _ h0)
 have vB : Below w0.heap.size w0 V:=by
  rw [← hV]
  exact hb0.trans ((((Below.refl _ w).alloc (Nat.le_refl _) _).alloc (by simp) _).mono hb0.size)
  -- an object that holds no cells, or the two blocks, are no matter of the iterator's
 have keep : ∀ {X Y : World} {row : Option Nat} {k : Nat} {o : Obj},X.grownBy Y row → (∀ r,row = some r → (V.heap.size ≤ r ∧ ∃ o : Obj,X.heap[r]? = some o ∧ o.isWalk = true) ∨ Z r) → w.heap.size ≤ k → k < w.heap.size + 2 → X.heap[k]? = some o → Y.heap[k]? = some o:=by
  intro X Y row k o hg' hr h1 h2 hk
  refine (hg'.block k (Array.getElem?_eq_some_iff.1 hk).1 (fun e => ?_)).trans hk
  rcases hr k e.symm with ⟨h3,_⟩ | h3
  ·omega
  ·have:=hZ k h3
   omega
 have less : ∀ {X : World} {row : Option Nat},(∀ r,row = some r → (V.heap.size ≤ r ∧ ∃ o : Obj,X.heap[r]? = some o ∧ o.isWalk = true) ∨ Z r) → ∀ r,row = some r → (w.heap.size ≤ r ∧ ∃ o : Obj,X.heap[r]? = some o ∧ o.isCells = false) ∨ Z r:=by
  intro X row hr r e
  rcases hr r e with ⟨h3,o,ho,hw⟩ | h3
  ·exact .inl ⟨by omega,o,ho,Obj.not_cells_of_walk hw⟩
  ·exact .inr h3
 refine ⟨w.heap.size + 1,[{ target:=.collected w.heap.size,args:=#[] }],V,{ target:=.fn (.func gf) lb,args:=#[.func (.yield (w.heap.size + 1)) #[] #[]] },V,gf,
  #[.func (.yield (w.heap.size + 1)) #[] #[]] ++ lb,V,?_,?_,?_,?_,fun _ => h1,?_⟩
 ·rw [← hV,hrec]; exact run_enterLoop_outer _ _ _ _ _
 ·simp only [resolve,hg]; simp [go_sem]
 ·intro f' hf'; simp [Target.leads] at hf'; subst hf'; exact hFg
 ·simp [invoke,go_sem,eg]
 refine (hseq (w.heap.size + 1)
  (fun pre W => I pre W ∧ W.heap[w.heap.size + 1]? = some (.loop (rec .ready none)) ∧ W.heap[w.heap.size]? = some (.deferred (some [])))
  (fun pre W => Ix .ret pre W ∧ W.heap[w.heap.size + 1]? = some (.loop (rec .done (some .ret))) ∧ W.heap[w.heap.size]? = some (.deferred (some [])))
  V vB
  (fun s X Y row hs hg' hr => ⟨hI s X Y row hs.1 hg' (less hr),keep hg' hr (by omega) (by omega) hs.2.1,keep hg' hr (by omega) (by omega) hs.2.2⟩)
  (fun s X Y row hs hg' hr => ⟨hIx .ret s X Y row hs.1 hg' (less hr),keep hg' hr (by omega) (by omega) hs.2.1,keep hg' hr (by omega) (by omega) hs.2.2⟩)
  ?round ⟨vI,vL,vD⟩).mono ?behind
 case round =>
  rintro pre x W ⟨hi,hl,hk⟩ hlen
  have hlt : w.heap.size + 1 < W.heap.size:=(Array.getElem?_eq_some_iff.1 hl).1
  have hy:=run_yield (P:=P) (args:=encs x) hl (by rw [hrec]; exact hps x)
  rw [hrec] at hy
  refine ⟨fn,_,assign,body,hy,roundIn_of_wpIn hfn (hassign _ x W _ ?_)⟩
  refine ⟨_,run_beginRound hl (by rw [hrec]),?_⟩
  obtain ⟨X,hX⟩ : ∃ X,W.putObj (w.heap.size + 1) (.loop { rec .ready none with state:=.busy }) = X:=⟨_,rfl⟩
  have xL : X.heap[w.heap.size + 1]? = some (.loop { rec .ready none with state:=.busy }):=by rw [← hX]; exact World.putObj_heap_same hlt
  have xD : X.heap[w.heap.size]? = some (.deferred (some [])):=by rw [← hX]; exact (World.putObj_heap_other (by omega)).trans hk
  have xK : Kp W X:=by rw [← hX]; exact hKb _ _ _ _ (by omega) hl rfl rfl
  have xI : I pre X:=by rw [← hX]; exact hI.from.putObj _ hi (by omega) hl rfl
  rw [hX]
  refine wpIn_mono (hbody _ pre x X xI hlen) ?_
    -- the round's end: the record is written back
  have fin : ∀ (jump : Option Code) (Y : World),KeepsFrom w.heap.size X Y →
    (Instr.endRound (w.heap.size + 1) jump).run P Y = .ok (.bool jump.isNone) (Y.putObj (w.heap.size + 1) (.loop (rec (if jump.isNone then .ready else .done) jump))) ∧
    Y.heap[w.heap.size + 1]? = some (.loop { rec .ready none with state:=.busy }) ∧
    (Y.putObj (w.heap.size + 1) (.loop (rec (if jump.isNone then .ready else .done) jump))).heap[w.heap.size + 1]? = some (.loop (rec (if jump.isNone then .ready else .done) jump)) ∧
    (Y.putObj (w.heap.size + 1) (.loop (rec (if jump.isNone then .ready else .done) jump))).heap[w.heap.size]? = some (.deferred (some [])):=by
   intro jump Y hk3
   have yL:=hk3.same _ _ (by omega) xL rfl
   have e:=run_endRound (P:=P) jump yL
   rw [hrec] at e ⊢
   exact ⟨e,by rw [hrec] at yL; exact yL,World.putObj_heap_same (Array.getElem?_eq_some_iff.1 yL).1,(World.putObj_heap_other (by omega)).trans (hk3.same _ _ (Nat.le_refl _) xD rfl)⟩
  intro e a3 Y hp
  cases e with
  | normal =>
   obtain ⟨q1,q2,q3⟩:=hp
   obtain ⟨r1,r2,r3,r4⟩:=fin none Y q1
   exact ⟨_,_,r1,.inl ⟨rfl,⟨hI.from.putObj _ q3 (by omega) r2 rfl,r3,r4⟩,hKt xK (hKt q2 (hKb _ _ _ _ (by omega) r2 rfl rfl))⟩⟩
  | ret =>
   obtain ⟨q1,q3⟩:=hp
   obtain ⟨r1,r2,r3,r4⟩:=fin (some .ret) Y q1
   exact ⟨_,_,r1,.inr ⟨rfl,(hIx .ret).from.putObj _ q3 (by omega) r2 rfl,r3,r4⟩⟩
  | exit id => exact hp.elim
  | goto t => exact hp.elim
  | panic ch => exact hp.elim
  | outgrown => exact hp.elim
 case behind =>
  rintro e Y ⟨⟨v,rfl⟩,(⟨xs,hS,hi,hl,hk⟩ | ⟨pre,hSp,hi,hl,hk⟩)⟩
  ·have e:=run_endLoop (P:=P) hl (by rw [hrec]; simp)
   rw [hrec] at e
   exact ⟨none,_,e,hdone _ xs _ (Nat.le_refl _) hS (hI.from.putObj _ hi (by omega) hl rfl) ((World.putObj_heap_other (by omega)).trans hk)⟩
  ·have e:=run_endLoop (P:=P) hl (by rw [hrec]; simp)
   rw [hrec] at e
   exact ⟨some .ret,_,e,hstop _ pre _ (Nat.le_refl _) hSp ((hIx .ret).from.putObj _ hi (by omega) hl rfl) ((World.putObj_heap_other (by omega)).trans hk)⟩
end Go.Proofs.YthhohbidjhcjeaaGreatDoor.RB
