/- Printed by a program of this place out of the translation: what the functions compute, and their contracts. -/
import Derived.Test.YthhohbidjhcjeaaGreatDoorProg
import Derived.Below
import Derived.Deep.Draws
import Derived.Deep.AppendLies
import Derived.Maps.AppendAt
import Derived.OwnWalk
import Derived.Laws.BytesArg
import Derived.Laws.MakeOwn
import Derived.Laws.OwnMore
import Derived.Deep.OwnRows
import Derived.Tactics
import Derived.Lib.ConvBytes
import Derived.Laws.Slices
import Derived.WalkKit
import Derived.KernelRfl
import Derived.RowKit3
import Derived.Deep.LoopGhost
import Derived.Deep.QuietTactic
import Derived.BigQuiet
import Derived.WideLaws
import Derived.Deep.DeepCutAuto
import Derived.Deep.CutBlock
import Derived.Deep.RegionHeld3
import Derived.Laws.Rows
import Derived.Lib.AppendStr
import Derived.ArgAppend
import Derived.Laws.IdiomCopy
import Derived.OrdersHeld
import Derived.Laws.BitsLemmas
import Derived.RowKit
import Derived.Test.YthhohbidjhcjeaaGreatDoorBWd
namespace Go.Proofs.YthhohbidjhcjeaaGreatDoor.Q
open Go.RowKit Go.Proofs.YthhohbidjhcjeaaGreatDoorW.PrintWords Go.Proofs.YthhohbidjhcjeaaGreatDoorW.PrintLast Go.Proofs.YthhohbidjhcjeaaGreatDoorW.PrintMore
attribute [local go_sem] max2_int min2_int max_two min_two max_three min_three max_four min_four   -- for this text's walks alone
set_option linter.unusedVariables false
set_option linter.unusedSimpArgs false



def errW : Option Int → Value
 | none => .nilIface
 | some c => .iface 0 (.int .i64 c)
theorem errW_none : errW none = .nilIface:=rfl
theorem errW_some (c : Int) : errW (some c) = .iface 0 (.int .i64 c):=rfl

theorem info5 : (Tryz.prog.info? 5).map (fun i => (i.zero,i.size,i.bytes)) = some (some (.int .u8 0),1,1):=by kernel_rfl
theorem info9 : (Tryz.prog.info? 9).map (fun i => (i.zero,i.size,i.bytes)) = some (some (.string ⟨#[]⟩),1,16):=by kernel_rfl
theorem info41 : (Tryz.prog.info? 41).map (fun i => (i.zero,i.size,i.bytes)) = some (some (.agg #[(.string ⟨#[]⟩),(.int .i64 0),(.slice none 0 0),(.string ⟨#[]⟩)]),4,64):=by kernel_rfl
-- the values' own types
def rd_L2 (xs : List (List ByteArray)) (i : Int) : (List ByteArray):=xs.getD i.toNat ([] : List ByteArray)
theorem at_L2 {w : World} {A : Option Addr} {n : Nat} {xs : List (List ByteArray)} (h : Kd.C (Kd.slice 9 Kd.string) w A n xs) (i : Int) (h0 : 0 ≤ i) (h1 : i < n) : ∃ ad A0 c0,A = some ad ∧ w.cell? (ad.add i.toNat) = some (.slice A0 (rd_L2 xs i).length c0) ∧ (rd_L2 xs i).length ≤ c0 ∧ Kd.string.C w A0 (rd_L2 xs i).length (rd_L2 xs i):=by
 obtain ⟨ad,c,e,_,hK,hc0⟩:=Kd.C_get h ([] : List ByteArray) i h0 h1
 have hc : ∀ j u,c[j]? = some u → w.cell? (ad.add (i.toNat * 1 + j)) = some u:=hc0
 obtain ⟨A0,c0,rfl,l0,g0⟩:=hK
 exact ⟨ad,A0,c0,e,by have hq:=hc 0 _ rfl; rwa [Nat.mul_one,Nat.add_zero] at hq,l0,g0⟩

/-! #### struct type 41 -/
structure S41 where
 f0 : ByteArray
 f1 : Int
 f2 : (List ByteArray)
 f3 : ByteArray
def z41 : S41:=⟨(⟨#[]⟩ : ByteArray),(0 : Int),([] : List ByteArray),(⟨#[]⟩ : ByteArray)⟩
def k41 : Kd S41:=Kd.iso (Kd.pair Kd.string (Kd.pair (Kd.int .i64) (Kd.pair (Kd.slice 9 Kd.string) Kd.string))) (fun x : S41 => (x.f0,x.f1,x.f2,x.f3))
theorem k41_heap : Kd.Heap k41:=Kd.heap_iso _ (Kd.heap_pair Kd.heap_string (Kd.heap_pair (Kd.heap_int .i64) (Kd.heap_pair (Kd.heap_slice 9 Kd.heap_string) Kd.heap_string)))
theorem k41_open {w : World} {x : S41} {cs : List Value} (h : k41.K w x cs) : ∃ A2 c2,cs = [.string x.f0,.int .i64 x.f1,.slice A2 x.f2.length c2,.string x.f3] ∧ x.f2.length ≤ c2 ∧ Kd.string.C w A2 x.f2.length x.f2:=by
 obtain ⟨_,_,rfl,rfl,⟨_,_,rfl,rfl,⟨_,_,rfl,⟨A2,c2,rfl,l2,g2⟩,rfl⟩⟩⟩:=h
 exact ⟨A2,c2,rfl,l2,g2⟩
theorem k41_openM {w : World} {base : Nat} {ok : Nat → Prop} {x : S41} {cs : List Value} (h : k41.M w base ok x cs) : ∃ v2,cs = [.string x.f0,.int .i64 x.f1,v2,.string x.f3] ∧ Kd.string.R 9 w base ok v2 x.f2:=by
 obtain ⟨_,_,rfl,rfl,⟨_,_,rfl,rfl,⟨_,_,rfl,⟨v2,rfl,g2⟩,rfl⟩⟩⟩:=h
 exact ⟨v2,rfl,g2⟩
theorem k41_mk (w : World) (x : S41) {A2 : Option Addr} {c2 : Nat} (l2 : x.f2.length ≤ c2) (g2 : Kd.string.C w A2 x.f2.length x.f2) : k41.K w x [.string x.f0,.int .i64 x.f1,.slice A2 x.f2.length c2,.string x.f3]:=⟨[.string x.f0],[.int .i64 x.f1,.slice A2 x.f2.length c2,.string x.f3],rfl,rfl,⟨[.int .i64 x.f1],[.slice A2 x.f2.length c2,.string x.f3],rfl,rfl,⟨[.slice A2 x.f2.length c2],[.string x.f3],rfl,⟨A2,c2,rfl,l2,g2⟩,rfl⟩⟩⟩
theorem k41_mkM (w : World) (base : Nat) (ok : Nat → Prop) (x : S41) {v2 : Value} (g2 : Kd.string.R 9 w base ok v2 x.f2) : k41.M w base ok x [.string x.f0,.int .i64 x.f1,v2,.string x.f3]:=⟨[.string x.f0],[.int .i64 x.f1,v2,.string x.f3],rfl,rfl,⟨[.int .i64 x.f1],[v2,.string x.f3],rfl,rfl,⟨[v2],[.string x.f3],rfl,⟨v2,rfl,g2⟩,rfl⟩⟩⟩
theorem k41_openF {W : World} {ok : Nat → Prop} {x : S41} {cs : List Value} (h : Kd.FK k41 W ok x cs) : ∃ A2 c2,cs = [.string x.f0,.int .i64 x.f1,.slice A2 x.f2.length c2,.string x.f3] ∧ x.f2.length ≤ c2 ∧ Kd.F Kd.string W ok A2 x.f2.length x.f2:=by
 obtain ⟨A2,c2,rfl,l2,_⟩:=k41_open (Kd.FK_now h)
 exact ⟨A2,c2,rfl,l2,(fun W' hW => by obtain ⟨A2_,c2_,he,l2_,g2_⟩:=k41_open (h W' hW); injection (Option.some.inj (show some (Value.slice A2 x.f2.length c2) = some (Value.slice A2_ x.f2.length c2_) from congrArg (fun l => l[2]?) he)) with ha_ _ _; rw [ha_]; exact g2_)⟩
theorem k41_mkF (W : World) (ok : Nat → Prop) (x : S41) {A2 : Option Addr} {c2 : Nat} (l2 : x.f2.length ≤ c2) (g2 : Kd.F Kd.string W ok A2 x.f2.length x.f2) : Kd.FK k41 W ok x [.string x.f0,.int .i64 x.f1,.slice A2 x.f2.length c2,.string x.f3]:=fun W2 hW => k41_mk W2 x l2 (g2 W2 hW)
def rd_T41 (xs : List S41) (i : Int) : S41:=xs.getD i.toNat z41
theorem at_T41 {w : World} {A : Option Addr} {n : Nat} {xs : List S41} (h : Kd.C k41 w A n xs) (i : Int) (h0 : 0 ≤ i) (h1 : i < n) : ∃ ad A2 c2,A = some ad ∧ w.cell? (ad.add (i.toNat * 4)) = some (.string (rd_T41 xs i).f0) ∧ w.cell? ⟨(ad.add (i.toNat * 4)).block,(ad.add (i.toNat * 4)).off + 1,none⟩ = some (.int .i64 (rd_T41 xs i).f1) ∧ w.cell? ⟨(ad.add (i.toNat * 4)).block,(ad.add (i.toNat * 4)).off + 2,none⟩ = some (.slice A2 (rd_T41 xs i).f2.length c2) ∧ w.cell? ⟨(ad.add (i.toNat * 4)).block,(ad.add (i.toNat * 4)).off + 3,none⟩ = some (.string (rd_T41 xs i).f3) ∧ (rd_T41 xs i).f2.length ≤ c2 ∧ Kd.string.C w A2 (rd_T41 xs i).f2.length (rd_T41 xs i).f2:=by
 obtain ⟨ad,c,e,_,hK,hc0⟩:=Kd.C_get h z41 i h0 h1
 have hc : ∀ j u,c[j]? = some u → w.cell? (ad.add (i.toNat * 4 + j)) = some u:=hc0
 obtain ⟨A2,c2,rfl,l2,g2⟩:=k41_open hK
 exact ⟨ad,A2,c2,e,hc 0 _ rfl,by rw [← add_field _ _ 1 (by omega)]; exact hc 1 _ rfl,by rw [← add_field _ _ 2 (by omega)]; exact hc 2 _ rfl,by rw [← add_field _ _ 3 (by omega)]; exact hc 3 _ rfl,l2,g2⟩

/-! #### struct type 25 -/
structure S25 where
 f0 : Int
 f1 : ByteArray
 f2 : ByteArray
 f3 : ByteArray
 f4 : Int
 f5 : (List ByteArray)
 f6 : (List ByteArray)
def z25 : S25:=⟨(0 : Int),(⟨#[]⟩ : ByteArray),(⟨#[]⟩ : ByteArray),(⟨#[]⟩ : ByteArray),(0 : Int),([] : List ByteArray),([] : List ByteArray)⟩
def k25 : Kd S25:=Kd.iso (Kd.pair (Kd.int .i64) (Kd.pair Kd.string (Kd.pair Kd.string (Kd.pair Kd.string (Kd.pair (Kd.int .i64) (Kd.pair (Kd.slice 9 Kd.string) (Kd.slice 9 Kd.string))))))) (fun x : S25 => (x.f0,x.f1,x.f2,x.f3,x.f4,x.f5,x.f6))
theorem k25_heap : Kd.Heap k25:=Kd.heap_iso _ (Kd.heap_pair (Kd.heap_int .i64) (Kd.heap_pair Kd.heap_string (Kd.heap_pair Kd.heap_string (Kd.heap_pair Kd.heap_string (Kd.heap_pair (Kd.heap_int .i64) (Kd.heap_pair (Kd.heap_slice 9 Kd.heap_string) (Kd.heap_slice 9 Kd.heap_string)))))))
theorem k25_open {w : World} {x : S25} {cs : List Value} (h : k25.K w x cs) : ∃ A5 c5 A6 c6,cs = [.int .i64 x.f0,.string x.f1,.string x.f2,.string x.f3,.int .i64 x.f4,.slice A5 x.f5.length c5,.slice A6 x.f6.length c6] ∧ x.f5.length ≤ c5 ∧ Kd.string.C w A5 x.f5.length x.f5 ∧ x.f6.length ≤ c6 ∧ Kd.string.C w A6 x.f6.length x.f6:=by
 obtain ⟨_,_,rfl,rfl,⟨_,_,rfl,rfl,⟨_,_,rfl,rfl,⟨_,_,rfl,rfl,⟨_,_,rfl,rfl,⟨_,_,rfl,⟨A5,c5,rfl,l5,g5⟩,⟨A6,c6,rfl,l6,g6⟩⟩⟩⟩⟩⟩⟩:=h
 exact ⟨A5,c5,A6,c6,rfl,l5,g5,l6,g6⟩
theorem k25_openM {w : World} {base : Nat} {ok : Nat → Prop} {x : S25} {cs : List Value} (h : k25.M w base ok x cs) : ∃ v5 v6,cs = [.int .i64 x.f0,.string x.f1,.string x.f2,.string x.f3,.int .i64 x.f4,v5,v6] ∧ Kd.string.R 9 w base ok v5 x.f5 ∧ Kd.string.R 9 w base ok v6 x.f6:=by
 obtain ⟨_,_,rfl,rfl,⟨_,_,rfl,rfl,⟨_,_,rfl,rfl,⟨_,_,rfl,rfl,⟨_,_,rfl,rfl,⟨_,_,rfl,⟨v5,rfl,g5⟩,⟨v6,rfl,g6⟩⟩⟩⟩⟩⟩⟩:=h
 exact ⟨v5,v6,rfl,g5,g6⟩
theorem k25_mk (w : World) (x : S25) {A5 : Option Addr} {c5 : Nat} (l5 : x.f5.length ≤ c5) (g5 : Kd.string.C w A5 x.f5.length x.f5) {A6 : Option Addr} {c6 : Nat} (l6 : x.f6.length ≤ c6) (g6 : Kd.string.C w A6 x.f6.length x.f6) : k25.K w x [.int .i64 x.f0,.string x.f1,.string x.f2,.string x.f3,.int .i64 x.f4,.slice A5 x.f5.length c5,.slice A6 x.f6.length c6]:=⟨[.int .i64 x.f0],[.string x.f1,.string x.f2,.string x.f3,.int .i64 x.f4,.slice A5 x.f5.length c5,.slice A6 x.f6.length c6],rfl,rfl,⟨[.string x.f1],[.string x.f2,.string x.f3,.int .i64 x.f4,.slice A5 x.f5.length c5,.slice A6 x.f6.length c6],rfl,rfl,⟨[.string x.f2],[.string x.f3,.int .i64 x.f4,.slice A5 x.f5.length c5,.slice A6 x.f6.length c6],rfl,rfl,⟨[.string x.f3],[.int .i64 x.f4,.slice A5 x.f5.length c5,.slice A6 x.f6.length c6],rfl,rfl,⟨[.int .i64 x.f4],[.slice A5 x.f5.length c5,.slice A6 x.f6.length c6],rfl,rfl,⟨[.slice A5 x.f5.length c5],[.slice A6 x.f6.length c6],rfl,⟨A5,c5,rfl,l5,g5⟩,⟨A6,c6,rfl,l6,g6⟩⟩⟩⟩⟩⟩⟩
theorem k25_mkM (w : World) (base : Nat) (ok : Nat → Prop) (x : S25) {v5 : Value} (g5 : Kd.string.R 9 w base ok v5 x.f5) {v6 : Value} (g6 : Kd.string.R 9 w base ok v6 x.f6) : k25.M w base ok x [.int .i64 x.f0,.string x.f1,.string x.f2,.string x.f3,.int .i64 x.f4,v5,v6]:=⟨[.int .i64 x.f0],[.string x.f1,.string x.f2,.string x.f3,.int .i64 x.f4,v5,v6],rfl,rfl,⟨[.string x.f1],[.string x.f2,.string x.f3,.int .i64 x.f4,v5,v6],rfl,rfl,⟨[.string x.f2],[.string x.f3,.int .i64 x.f4,v5,v6],rfl,rfl,⟨[.string x.f3],[.int .i64 x.f4,v5,v6],rfl,rfl,⟨[.int .i64 x.f4],[v5,v6],rfl,rfl,⟨[v5],[v6],rfl,⟨v5,rfl,g5⟩,⟨v6,rfl,g6⟩⟩⟩⟩⟩⟩⟩
theorem k25_openF {W : World} {ok : Nat → Prop} {x : S25} {cs : List Value} (h : Kd.FK k25 W ok x cs) : ∃ A5 c5 A6 c6,cs = [.int .i64 x.f0,.string x.f1,.string x.f2,.string x.f3,.int .i64 x.f4,.slice A5 x.f5.length c5,.slice A6 x.f6.length c6] ∧ x.f5.length ≤ c5 ∧ Kd.F Kd.string W ok A5 x.f5.length x.f5 ∧ x.f6.length ≤ c6 ∧ Kd.F Kd.string W ok A6 x.f6.length x.f6:=by
 obtain ⟨A5,c5,A6,c6,rfl,l5,_,l6,_⟩:=k25_open (Kd.FK_now h)
 exact ⟨A5,c5,A6,c6,rfl,l5,(fun W' hW => by obtain ⟨A5_,c5_,A6_,c6_,he,l5_,g5_,l6_,g6_⟩:=k25_open (h W' hW); injection (Option.some.inj (show some (Value.slice A5 x.f5.length c5) = some (Value.slice A5_ x.f5.length c5_) from congrArg (fun l => l[5]?) he)) with ha_ _ _; rw [ha_]; exact g5_),l6,(fun W' hW => by obtain ⟨A5_,c5_,A6_,c6_,he,l5_,g5_,l6_,g6_⟩:=k25_open (h W' hW); injection (Option.some.inj (show some (Value.slice A6 x.f6.length c6) = some (Value.slice A6_ x.f6.length c6_) from congrArg (fun l => l[6]?) he)) with ha_ _ _; rw [ha_]; exact g6_)⟩
theorem k25_mkF (W : World) (ok : Nat → Prop) (x : S25) {A5 : Option Addr} {c5 : Nat} (l5 : x.f5.length ≤ c5) (g5 : Kd.F Kd.string W ok A5 x.f5.length x.f5) {A6 : Option Addr} {c6 : Nat} (l6 : x.f6.length ≤ c6) (g6 : Kd.F Kd.string W ok A6 x.f6.length x.f6) : Kd.FK k25 W ok x [.int .i64 x.f0,.string x.f1,.string x.f2,.string x.f3,.int .i64 x.f4,.slice A5 x.f5.length c5,.slice A6 x.f6.length c6]:=fun W2 hW => k25_mk W2 x l5 (g5 W2 hW) l6 (g6 W2 hW)
def rd_T25 (xs : List S25) (i : Int) : S25:=xs.getD i.toNat z25
theorem at_T25 {w : World} {A : Option Addr} {n : Nat} {xs : List S25} (h : Kd.C k25 w A n xs) (i : Int) (h0 : 0 ≤ i) (h1 : i < n) : ∃ ad A5 c5 A6 c6,A = some ad ∧ w.cell? (ad.add (i.toNat * 7)) = some (.int .i64 (rd_T25 xs i).f0) ∧ w.cell? ⟨(ad.add (i.toNat * 7)).block,(ad.add (i.toNat * 7)).off + 1,none⟩ = some (.string (rd_T25 xs i).f1) ∧ w.cell? ⟨(ad.add (i.toNat * 7)).block,(ad.add (i.toNat * 7)).off + 2,none⟩ = some (.string (rd_T25 xs i).f2) ∧ w.cell? ⟨(ad.add (i.toNat * 7)).block,(ad.add (i.toNat * 7)).off + 3,none⟩ = some (.string (rd_T25 xs i).f3) ∧ w.cell? ⟨(ad.add (i.toNat * 7)).block,(ad.add (i.toNat * 7)).off + 4,none⟩ = some (.int .i64 (rd_T25 xs i).f4) ∧ w.cell? ⟨(ad.add (i.toNat * 7)).block,(ad.add (i.toNat * 7)).off + 5,none⟩ = some (.slice A5 (rd_T25 xs i).f5.length c5) ∧ w.cell? ⟨(ad.add (i.toNat * 7)).block,(ad.add (i.toNat * 7)).off + 6,none⟩ = some (.slice A6 (rd_T25 xs i).f6.length c6) ∧ (rd_T25 xs i).f5.length ≤ c5 ∧ Kd.string.C w A5 (rd_T25 xs i).f5.length (rd_T25 xs i).f5 ∧ (rd_T25 xs i).f6.length ≤ c6 ∧ Kd.string.C w A6 (rd_T25 xs i).f6.length (rd_T25 xs i).f6:=by
 obtain ⟨ad,c,e,_,hK,hc0⟩:=Kd.C_get h z25 i h0 h1
 have hc : ∀ j u,c[j]? = some u → w.cell? (ad.add (i.toNat * 7 + j)) = some u:=hc0
 obtain ⟨A5,c5,A6,c6,rfl,l5,g5,l6,g6⟩:=k25_open hK
 exact ⟨ad,A5,c5,A6,c6,e,hc 0 _ rfl,by rw [← add_field _ _ 1 (by omega)]; exact hc 1 _ rfl,by rw [← add_field _ _ 2 (by omega)]; exact hc 2 _ rfl,by rw [← add_field _ _ 3 (by omega)]; exact hc 3 _ rfl,by rw [← add_field _ _ 4 (by omega)]; exact hc 4 _ rfl,by rw [← add_field _ _ 5 (by omega)]; exact hc 5 _ rfl,by rw [← add_field _ _ 6 (by omega)]; exact hc 6 _ rfl,l5,g5,l6,g6⟩

def rd_L7 (xs : List (List S25)) (i : Int) : (List S25):=xs.getD i.toNat ([] : List S25)
theorem at_L7 {w : World} {A : Option Addr} {n : Nat} {xs : List (List S25)} (h : Kd.C (Kd.slice 25 k25) w A n xs) (i : Int) (h0 : 0 ≤ i) (h1 : i < n) : ∃ ad A0 c0,A = some ad ∧ w.cell? (ad.add i.toNat) = some (.slice A0 (rd_L7 xs i).length c0) ∧ (rd_L7 xs i).length ≤ c0 ∧ k25.C w A0 (rd_L7 xs i).length (rd_L7 xs i):=by
 obtain ⟨ad,c,e,_,hK,hc0⟩:=Kd.C_get h ([] : List S25) i h0 h1
 have hc : ∀ j u,c[j]? = some u → w.cell? (ad.add (i.toNat * 1 + j)) = some u:=hc0
 obtain ⟨A0,c0,rfl,l0,g0⟩:=hK
 exact ⟨ad,A0,c0,e,by have hq:=hc 0 _ rfl; rwa [Nat.mul_one,Nat.add_zero] at hq,l0,g0⟩

end Go.Proofs.YthhohbidjhcjeaaGreatDoor.Q
namespace Go.Proofs.YthhohbidjhcjeaaGreatDoor.Q
open Go.RowKit Go.Proofs.YthhohbidjhcjeaaGreatDoorW.PrintWords Go.Proofs.YthhohbidjhcjeaaGreatDoorW.PrintLast Go.Proofs.YthhohbidjhcjeaaGreatDoorW.PrintMore
attribute [local go_sem] max2_int min2_int max_two min_two max_three min_three max_four min_four   -- for this text's walks alone
set_option linter.unusedVariables false
set_option linter.unusedSimpArgs false

/-! ### counterpanelaw07_Great: function 21 -/
mutual
def counterpanelaw07_Great.l0 : Nat → List (S41) → Int → Int → Option (Bool)
 | 0,_,_,_ => none
 | k + 1,x0,x3,x4 => if x4 < (x0.length : Int) then (counterpanelaw07_Great.j1 k x0 x3 x4 (decide (x3 < 4000))) else (counterpanelaw07_Great.j1 k x0 x3 x4 false)
def counterpanelaw07_Great.j1 : Nat → List (S41) → Int → Int → Bool → Option (Bool)
 | 0,_,_,_,_ => none
 | k + 1,x0,x3,x4,x16 => if x16 = true then (if 0 ≤ x4 then (if x4 < (x0.length : Int) then (counterpanelaw07_Great.l1 k x0 (wrap64 ((wrap64 ((wrap64 (x3 + (((rd_T41 x0 x4).f2).length : Int))) + (mn (((rd_T41 x0 x4).f3).size : Int) 4000))) + (mn (((rd_T41 x0 x4).f0).size : Int) 4000))) x4 0) else (none)) else (none)) else (some (decide (x3 ≥ 4000)))
def counterpanelaw07_Great.l1 : Nat → List (S41) → Int → Int → Int → Option (Bool)
 | 0,_,_,_,_ => none
 | k + 1,x0,x3,x4,x5 => if 0 ≤ x4 then (if x4 < (x0.length : Int) then (if x5 < (((rd_T41 x0 x4).f2).length : Int) then (if x3 < 4000 then (if 0 ≤ x5 then (counterpanelaw07_Great.l1 k x0 (wrap64 (x3 + (mn ((rdOf ByteArray.empty ((rd_T41 x0 x4).f2) x5).size : Int) 4000))) x4 (wrap64 (x5 + 1))) else (none)) else (counterpanelaw07_Great.l0 k x0 x3 (wrap64 (x4 + 1)))) else (counterpanelaw07_Great.l0 k x0 x3 (wrap64 (x4 + 1)))) else (none)) else (none)
end
def counterpanelaw07_Great.f (k : Nat) (l0 : List (S41)) : Option (Bool):=counterpanelaw07_Great.l0 k l0 (wrap64 (5 * (l0.length : Int))) 0
theorem counterpanelaw07_Great.mono_l : ∀ k,(∀ y0 y1 y2,LeO (counterpanelaw07_Great.l0 k y0 y1 y2) (counterpanelaw07_Great.l0 (k + 1) y0 y1 y2)) ∧ (∀ y0 y1 y2 y3,LeO (counterpanelaw07_Great.j1 k y0 y1 y2 y3) (counterpanelaw07_Great.j1 (k + 1) y0 y1 y2 y3)) ∧ (∀ y0 y1 y2 y3,LeO (counterpanelaw07_Great.l1 k y0 y1 y2 y3) (counterpanelaw07_Great.l1 (k + 1) y0 y1 y2 y3))
 | 0 => ⟨fun _ _ _ r h => by simp [counterpanelaw07_Great.l0] at h,fun _ _ _ _ r h => by simp [counterpanelaw07_Great.j1] at h,fun _ _ _ _ r h => by simp [counterpanelaw07_Great.l1] at h⟩
 | k + 1 => by
  obtain ⟨ih0,ih1,ih2⟩:=counterpanelaw07_Great.mono_l k
  refine ⟨?_,?_,?_⟩
  ·intro y0 y1 y2
   unfold counterpanelaw07_Great.l0
   repeat' first
   | (with_reducible exact ih0 _ _ _)
   | (with_reducible exact ih1 _ _ _ _)
   | (with_reducible exact ih2 _ _ _ _)
   | (with_reducible exact LeO.refl _)
   | (with_reducible exact LeO.none _)
   | (with_reducible refine LeO.ite ?_ ?_)
   | (with_reducible refine LeO.bind ?_ (fun _ => ?_))
   | exact ih0 _ _ _
   | exact ih1 _ _ _ _
   | exact ih2 _ _ _ _
   | exact LeO.none _
   | refine LeO.ite ?_ ?_
   | refine LeO.bind ?_ (fun _ => ?_)
  ·intro y0 y1 y2 y3
   unfold counterpanelaw07_Great.j1
   repeat' first
   | (with_reducible exact ih0 _ _ _)
   | (with_reducible exact ih1 _ _ _ _)
   | (with_reducible exact ih2 _ _ _ _)
   | (with_reducible exact LeO.refl _)
   | (with_reducible exact LeO.none _)
   | (with_reducible refine LeO.ite ?_ ?_)
   | (with_reducible refine LeO.bind ?_ (fun _ => ?_))
   | exact ih0 _ _ _
   | exact ih1 _ _ _ _
   | exact ih2 _ _ _ _
   | exact LeO.none _
   | refine LeO.ite ?_ ?_
   | refine LeO.bind ?_ (fun _ => ?_)
  ·intro y0 y1 y2 y3
   unfold counterpanelaw07_Great.l1
   repeat' first
   | (with_reducible exact ih0 _ _ _)
   | (with_reducible exact ih1 _ _ _ _)
   | (with_reducible exact ih2 _ _ _ _)
   | (with_reducible exact LeO.refl _)
   | (with_reducible exact LeO.none _)
   | (with_reducible refine LeO.ite ?_ ?_)
   | (with_reducible refine LeO.bind ?_ (fun _ => ?_))
   | exact ih0 _ _ _
   | exact ih1 _ _ _ _
   | exact ih2 _ _ _ _
   | exact LeO.none _
   | refine LeO.ite ?_ ?_
   | refine LeO.bind ?_ (fun _ => ?_)
theorem counterpanelaw07_Great.mono : ∀ a0 k,LeO (counterpanelaw07_Great.f k a0) (counterpanelaw07_Great.f (k + 1) a0):=by
 intro a0 k
 obtain ⟨ih0,ih1,ih2⟩:=counterpanelaw07_Great.mono_l k
 unfold counterpanelaw07_Great.f
 repeat' first
   | (with_reducible exact ih0 _ _ _)
   | (with_reducible exact ih1 _ _ _ _)
   | (with_reducible exact ih2 _ _ _ _)
   | (with_reducible exact LeO.refl _)
   | (with_reducible exact LeO.none _)
   | (with_reducible refine LeO.ite ?_ ?_)
   | (with_reducible refine LeO.bind ?_ (fun _ => ?_))
   | exact ih0 _ _ _
   | exact ih1 _ _ _ _
   | exact ih2 _ _ _ _
   | exact LeO.none _
   | refine LeO.ite ?_ ?_
   | refine LeO.bind ?_ (fun _ => ?_)
set_option maxHeartbeats 8000000 in
set_option maxRecDepth 100000 in
theorem counterpanelaw07_Great.calls (k : Nat) (A0 : Option Addr) (c0 : Nat) (l0 : List (S41)) (r : Bool) (w : World) (hr0 : Kd.C k41 w A0 l0.length l0) (hc0 : l0.length ≤ c0) (h : counterpanelaw07_Great.f k l0 = some r) :
  Calls Tryz.prog 21 #[.slice A0 l0.length c0] w fun e w' => e = .returned (.bool r) ∧ Below w.heap.size w w':=by
 have HR0:=Aside0.mk hr0
 have HC0:=Aside0.mk hc0
 clear hr0 hc0
 have HB:=Aside0.mk (Below.refl w.heap.size w)
 have H : (counterpanelaw07_Great.l0 k l0 (wrap64 (5 * (l0.length : Int))) 0) = some r:=h
 clear h
 have H':=Aside0.mk H
 clear H
 go_enter Tryz.func21,Tryz.ntmps21
 go_wp2
 repeat (go_quiet (fail); try go_wp2)
 go_loopg [3,4] k (fun kq v3 v4 w' => ∃ (x3_1 : Int) (x4_1 : Int),v3 = .int .i64 x3_1 ∧ v4 = .int .i64 x4_1 ∧ Aside0 (counterpanelaw07_Great.l0 kq l0 x3_1 x4_1 = some r) ∧ Aside0 (kq ≤ k) ∧ Aside0 (Below w.heap.size w w'))
 case atStart => exact ⟨(wrap64 (5 * (l0.length : Int))),(0),(by first | rfl | (simp; done) | (simp [*]; done)),(by first | rfl | (simp; done) | (simp [*]; done)),H',⟨Nat.le_refl _⟩,⟨by repeat (first | (with_reducible first | exact HB.out | apply below_alloc | apply pw_below_drewN | apply below_drew1) | exact HB.out)⟩⟩
 case round =>
  clear H'
  obtain ⟨x3_1,x4_1,rfl,rfl,HA,HK1,HB⟩:=hrel
  cases gk with
  | zero => exact absurd HA.out (by simp [counterpanelaw07_Great.l0])
  | succ k1 =>
   have H:=HA.out
   clear HA
   simp only [counterpanelaw07_Great.l0] at H
   have HC2:=Aside0.mk H
   clear H
   go_upto_region 3 with (fail)
   repeat (go_quiet (fail); go_upto_region 3 with (fail))
   go_cut [16] (fun v16 wc => ∃ (kq : Nat) (x16_1 : Bool),v16 = .bool x16_1 ∧ Aside0 (counterpanelaw07_Great.j1 kq l0 x3_1 x4_1 x16_1 = some r) ∧ Aside0 (kq ≤ k1) ∧ Aside0 (Below w.heap.size w wc))
   case first =>
    have H:=HC2.out
    clear HC2
    by_cases c3 : x4_1 < (l0.length : Int)
    ·rw [if_pos c3] at H
     have c3b0 : decide (x4_1 < (l0.length : Int)) = true:=decide_eq_true c3
     clear c3
     (first | rw [c3b0] | (simp only [i64_w,i32_w]; rw [c3b0]) | skip)
     have H':=Aside0.mk H
     clear H
     go_wp2
     repeat (go_quiet (fail); try go_wp2)
     go_meet
     case rel => exact ⟨_,(decide (x3_1 < 4000)),(by first | rfl | (simp; done) | (simp [*]; done)),H',⟨by have:=HK1.out; first | omega | exact Nat.le_refl _⟩,⟨by repeat (first | (with_reducible first | exact HB.out | apply below_alloc | apply pw_below_drewN | apply below_drew1) | exact HB.out)⟩⟩
    ·rw [if_neg c3] at H
     have c3b0 : decide (x4_1 < (l0.length : Int)) = false:=decide_eq_false c3
     clear c3
     (first | rw [c3b0] | (simp only [i64_w,i32_w]; rw [c3b0]) | skip)
     have H':=Aside0.mk H
     clear H
     go_wp2
     repeat (go_quiet (fail); try go_wp2)
     go_meet
     case rel => exact ⟨_,(false),(by first | rfl | (simp; done) | (simp [*]; done)),H',⟨by have:=HK1.out; first | omega | exact Nat.le_refl _⟩,⟨by repeat (first | (with_reducible first | exact HB.out | apply below_alloc | apply pw_below_drewN | apply below_drew1) | exact HB.out)⟩⟩
   case rest =>
    clear HC2
    try clear c2
    try clear p2
    try clear c3
    try clear c3b0
    obtain ⟨kq,x16_1,rfl,HA,HJ1,HB⟩:=hcut
    cases kq with
    | zero => exact absurd HA.out (by simp [counterpanelaw07_Great.j1])
    | succ kj1 =>
     have H:=HA.out
     clear HA
     simp only [counterpanelaw07_Great.j1] at H
     by_cases c4 : x16_1 = true
     ·subst c4
      have H1 : (if 0 ≤ x4_1 then (if x4_1 < (l0.length : Int) then (counterpanelaw07_Great.l1 kj1 l0 (wrap64 ((wrap64 ((wrap64 (x3_1 + (((rd_T41 l0 x4_1).f2).length : Int))) + (mn (((rd_T41 l0 x4_1).f3).size : Int) 4000))) + (mn (((rd_T41 l0 x4_1).f0).size : Int) 4000))) x4_1 0) else (none)) else (none)) = some r:=by rw [if_pos rfl] at H; exact H
      clear H
      have H:=H1
      clear H1
      by_cases c5 : 0 ≤ x4_1
      ·rw [if_pos c5] at H
       have c5b0 : decide (0 ≤ x4_1) = true:=decide_eq_true c5
       clear c5
       by_cases c6 : x4_1 < (l0.length : Int)
       ·rw [if_pos c6] at H
        have c6b0 : decide (x4_1 < (l0.length : Int)) = true:=decide_eq_true c6
        clear c6
        obtain ⟨ji7,hji7⟩ : ∃ j_ : Int,(mn (((rd_T41 l0 x4_1).f3).size : Int) 4000) = j_:=⟨_,rfl⟩
        replace H : (counterpanelaw07_Great.l1 kj1 l0 (wrap64 ((wrap64 ((wrap64 (x3_1 + (((rd_T41 l0 x4_1).f2).length : Int))) + (ji7))) + (mn (((rd_T41 l0 x4_1).f0).size : Int) 4000))) x4_1 0) = some r:=by first | (rw [hji7] at H; exact H) | (simp only [hji7] at H ⊢; exact H)
        have hji7_ : (if 4000 < (((rd_T41 l0 x4_1).f3).size : Int) then 4000 else (((rd_T41 l0 x4_1).f3).size : Int)) = ji7:=hji7
        obtain ⟨ji8,hji8⟩ : ∃ j_ : Int,(mn (((rd_T41 l0 x4_1).f0).size : Int) 4000) = j_:=⟨_,rfl⟩
        replace H : (counterpanelaw07_Great.l1 kj1 l0 (wrap64 ((wrap64 ((wrap64 (x3_1 + (((rd_T41 l0 x4_1).f2).length : Int))) + (ji7))) + (ji8))) x4_1 0) = some r:=by first | (rw [hji8] at H; exact H) | (simp only [hji8] at H ⊢; exact H)
        have hji8_ : (if 4000 < (((rd_T41 l0 x4_1).f0).size : Int) then 4000 else (((rd_T41 l0 x4_1).f0).size : Int)) = ji8:=hji8
        have H':=Aside0.mk H
        clear H
        have p182 : 0 ≤ (x4_1 : Int):=of_decide_eq_true (by first | (with_reducible assumption) | assumption)
        have q182 : x4_1 < (l0.length : Int):=of_decide_eq_true (by first | (with_reducible assumption) | assumption)
        obtain ⟨ad182,A182_2,c182_2,e182,hx182_0,hx182_1,hx182_2,hx182_3,hl182_2,hi182_2⟩:=at_T41 HR0.out x4_1 p182 q182
        cases e182
        replace hx182_0:=(HB.out.cell (World.block_lt_of_cell? w _ hx182_0)).trans hx182_0
        replace hx182_1:=(HB.out.cell (World.block_lt_of_cell? w _ hx182_1)).trans hx182_1
        replace hx182_2:=(HB.out.cell (World.block_lt_of_cell? w _ hx182_2)).trans hx182_2
        replace hx182_3:=(HB.out.cell (World.block_lt_of_cell? w _ hx182_3)).trans hx182_3
        have HR182_2:=Aside0.mk hi182_2
        have HC182_2:=Aside0.mk hl182_2
        clear hi182_2 hl182_2
        replace p182:=eq_true p182
        replace q182:=eq_true q182
        have p183 : 0 ≤ (x4_1 : Int):=of_decide_eq_true (by first | (with_reducible assumption) | assumption)
        have q183 : x4_1 < (l0.length : Int):=of_decide_eq_true (by first | (with_reducible assumption) | assumption)
        obtain ⟨ad183,A183_2,c183_2,e183,hx183_0,hx183_1,hx183_2,hx183_3,hl183_2,hi183_2⟩:=at_T41 HR0.out x4_1 p183 q183
        obtain rfl : ad182 = ad183:=(by injection e183)
        replace hx183_0:=(HB.out.cell (World.block_lt_of_cell? w _ hx183_0)).trans hx183_0
        replace hx183_1:=(HB.out.cell (World.block_lt_of_cell? w _ hx183_1)).trans hx183_1
        replace hx183_2:=(HB.out.cell (World.block_lt_of_cell? w _ hx183_2)).trans hx183_2
        replace hx183_3:=(HB.out.cell (World.block_lt_of_cell? w _ hx183_3)).trans hx183_3
        have HR183_2:=Aside0.mk hi183_2
        have HC183_2:=Aside0.mk hl183_2
        clear hi183_2 hl183_2
        replace p183:=eq_true p183
        replace q183:=eq_true q183
        have ea_:=Option.some.inj (hx182_2.symm.trans hx183_2)
        injection ea_ with ea_ en_ ec_
        subst ea_
        subst ec_
        clear en_
        have p184 : 0 ≤ (x4_1 : Int):=of_decide_eq_true (by first | (with_reducible assumption) | assumption)
        have q184 : x4_1 < (l0.length : Int):=of_decide_eq_true (by first | (with_reducible assumption) | assumption)
        obtain ⟨ad184,A184_2,c184_2,e184,hx184_0,hx184_1,hx184_2,hx184_3,hl184_2,hi184_2⟩:=at_T41 HR0.out x4_1 p184 q184
        obtain rfl : ad182 = ad184:=(by injection e184)
        replace hx184_0:=(HB.out.cell (World.block_lt_of_cell? w _ hx184_0)).trans hx184_0
        replace hx184_1:=(HB.out.cell (World.block_lt_of_cell? w _ hx184_1)).trans hx184_1
        replace hx184_2:=(HB.out.cell (World.block_lt_of_cell? w _ hx184_2)).trans hx184_2
        replace hx184_3:=(HB.out.cell (World.block_lt_of_cell? w _ hx184_3)).trans hx184_3
        have HR184_2:=Aside0.mk hi184_2
        have HC184_2:=Aside0.mk hl184_2
        clear hi184_2 hl184_2
        replace p184:=eq_true p184
        replace q184:=eq_true q184
        have ea_:=Option.some.inj (hx182_2.symm.trans hx184_2)
        injection ea_ with ea_ en_ ec_
        subst ea_
        subst ec_
        clear en_
        go_wp2
        repeat (go_quiet (fail); try go_wp2)
        go_loopg [3,5] kj1 (fun kq v3 v5 w' => ∃ (x3_3 : Int) (x5_3 : Int),v3 = .int .i64 x3_3 ∧ v5 = .int .i64 x5_3 ∧ Aside0 (counterpanelaw07_Great.l1 kq l0 x3_3 x4_1 x5_3 = some r) ∧ Aside0 (kq ≤ kj1) ∧ Aside0 (Below w.heap.size w w'))
        case atStart => exact ⟨(wrap64 ((wrap64 ((wrap64 (x3_1 + (((rd_T41 l0 x4_1).f2).length : Int))) + (ji7))) + (ji8))),(0),(by first | rfl | (simp; done) | (simp only [← hji7,← hji8] <;> (first | rfl | simp)) | (simp [*]; done)),(by first | rfl | (simp; done) | (simp [*]; done)),H',⟨Nat.le_refl _⟩,⟨by repeat (first | (with_reducible first | exact HB.out | apply below_alloc | apply pw_below_drewN | apply below_drew1) | exact HB.out)⟩⟩
        case round =>
         clear H'
         try clear c1
         try clear p1
         try clear q1
         try clear hx1
         try clear c2
         try clear p2
         try clear c3
         try clear c3b0
         try clear c4
         try clear c5
         try clear c5b0
         try clear c6
         try clear c6b0
         try clear p6
         try clear hx182_0
         try clear hx182_1
         try clear hx182_2
         try clear hx182_3
         try clear hx183_0
         try clear hx183_1
         try clear hx183_2
         try clear hx183_3
         try clear hx184_0
         try clear hx184_1
         try clear hx184_2
         try clear hx184_3
         try clear p182
         try clear p183
         try clear p184
         try clear p2
         try clear q182
         try clear q183
         try clear q184
         obtain ⟨x3_3,x5_3,rfl,rfl,HA,HK3,HB⟩:=hrel
         cases gk with
         | zero => exact absurd HA.out (by simp [counterpanelaw07_Great.l1])
         | succ k3 =>
          have H:=HA.out
          clear HA
          simp only [counterpanelaw07_Great.l1] at H
          by_cases c9 : 0 ≤ x4_1
          ·rw [if_pos c9] at H
           have c9b0 : decide (0 ≤ x4_1) = true:=decide_eq_true c9
           clear c9
           by_cases c10 : x4_1 < (l0.length : Int)
           ·rw [if_pos c10] at H
            have c10b0 : decide (x4_1 < (l0.length : Int)) = true:=decide_eq_true c10
            clear c10
            by_cases c11 : x5_3 < (((rd_T41 l0 x4_1).f2).length : Int)
            ·rw [if_pos c11] at H
             have c11b0 : decide (x5_3 < (((rd_T41 l0 x4_1).f2).length : Int)) = true:=decide_eq_true c11
             clear c11
             by_cases c12 : x3_3 < 4000
             ·rw [if_pos c12] at H
              have c12b0 : decide (x3_3 < 4000) = true:=decide_eq_true c12
              clear c12
              by_cases c13 : 0 ≤ x5_3
              ·rw [if_pos c13] at H
               have c13b0 : decide (0 ≤ x5_3) = true:=decide_eq_true c13
               clear c13
               obtain ⟨ji14,hji14⟩ : ∃ j_ : Int,(mn ((rdOf ByteArray.empty ((rd_T41 l0 x4_1).f2) x5_3).size : Int) 4000) = j_:=⟨_,rfl⟩
               replace H : (counterpanelaw07_Great.l1 k3 l0 (wrap64 (x3_3 + (ji14))) x4_1 (wrap64 (x5_3 + 1))) = some r:=by first | (rw [hji14] at H; exact H) | (simp only [hji14] at H ⊢; exact H)
               have hji14_ : (if 4000 < ((rdOf ByteArray.empty ((rd_T41 l0 x4_1).f2) x5_3).size : Int) then 4000 else ((rdOf ByteArray.empty ((rd_T41 l0 x4_1).f2) x5_3).size : Int)) = ji14:=hji14
               have H':=Aside0.mk H
               clear H
               have p185 : 0 ≤ (x4_1 : Int):=of_decide_eq_true (by first | (with_reducible assumption) | assumption)
               have q185 : x4_1 < (l0.length : Int):=of_decide_eq_true (by first | (with_reducible assumption) | assumption)
               obtain ⟨ad185,A185_2,c185_2,e185,hx185_0,hx185_1,hx185_2,hx185_3,hl185_2,hi185_2⟩:=at_T41 HR0.out x4_1 p185 q185
               obtain rfl : ad182 = ad185:=(by injection e185)
               replace hx185_0:=(HB.out.cell (World.block_lt_of_cell? w _ hx185_0)).trans hx185_0
               replace hx185_1:=(HB.out.cell (World.block_lt_of_cell? w _ hx185_1)).trans hx185_1
               replace hx185_2:=(HB.out.cell (World.block_lt_of_cell? w _ hx185_2)).trans hx185_2
               replace hx185_3:=(HB.out.cell (World.block_lt_of_cell? w _ hx185_3)).trans hx185_3
               have HR185_2:=Aside0.mk hi185_2
               have HC185_2:=Aside0.mk hl185_2
               clear hi185_2 hl185_2
               replace p185:=eq_true p185
               replace q185:=eq_true q185
               have p186 : 0 ≤ (x4_1 : Int):=of_decide_eq_true (by first | (with_reducible assumption) | assumption)
               have q186 : x4_1 < (l0.length : Int):=of_decide_eq_true (by first | (with_reducible assumption) | assumption)
               obtain ⟨ad186,A186_2,c186_2,e186,hx186_0,hx186_1,hx186_2,hx186_3,hl186_2,hi186_2⟩:=at_T41 HR0.out x4_1 p186 q186
               obtain rfl : ad182 = ad186:=(by injection e186)
               replace hx186_0:=(HB.out.cell (World.block_lt_of_cell? w _ hx186_0)).trans hx186_0
               replace hx186_1:=(HB.out.cell (World.block_lt_of_cell? w _ hx186_1)).trans hx186_1
               replace hx186_2:=(HB.out.cell (World.block_lt_of_cell? w _ hx186_2)).trans hx186_2
               replace hx186_3:=(HB.out.cell (World.block_lt_of_cell? w _ hx186_3)).trans hx186_3
               have HR186_2:=Aside0.mk hi186_2
               have HC186_2:=Aside0.mk hl186_2
               clear hi186_2 hl186_2
               replace p186:=eq_true p186
               replace q186:=eq_true q186
               have ea_:=Option.some.inj (hx185_2.symm.trans hx186_2)
               injection ea_ with ea_ en_ ec_
               subst ea_
               subst ec_
               clear en_
               have p187 : 0 ≤ (x5_3 : Int):=of_decide_eq_true (by first | (with_reducible assumption) | assumption)
               have q187 : x5_3 < (((rd_T41 l0 x4_1).f2).length : Int):=of_decide_eq_true (by first | (with_reducible assumption) | assumption)
               obtain ⟨ad187,e187,hx187_0⟩:=Kd.at_string HR186_2.out x5_3 p187 q187
               cases e187
               replace hx187_0:=(HB.out.cell (World.block_lt_of_cell? w _ hx187_0)).trans hx187_0
               replace p187:=eq_true p187
               replace q187:=eq_true q187
               go_wp2
               repeat (go_quiet (fail); try go_wp2)
               go_roundg k3
               case measure => have:=HK1.out; have:=HJ1.out; have:=HK3.out; omega
               case rel => exact ⟨(wrap64 (x3_3 + (ji14))),(wrap64 (x5_3 + 1)),(by first | rfl | (simp; done) | (simp only [← hji14] <;> (first | rfl | simp)) | (simp [*]; done)),(by first | rfl | (simp; done) | (simp [*]; done)),H',⟨by have:=HK1.out; have:=HJ1.out; have:=HK3.out; omega⟩,⟨by repeat (first | (with_reducible first | exact HB.out | apply below_alloc | apply pw_below_drewN | apply below_drew1) | exact HB.out)⟩⟩
              ·rw [if_neg c13] at H
               exact absurd H (by simp)
             ·rw [if_neg c12] at H
              have c12b0 : decide (x3_3 < 4000) = false:=decide_eq_false c12
              clear c12
              have H':=Aside0.mk H
              clear H
              have p185 : 0 ≤ (x4_1 : Int):=of_decide_eq_true (by first | (with_reducible assumption) | assumption)
              have q185 : x4_1 < (l0.length : Int):=of_decide_eq_true (by first | (with_reducible assumption) | assumption)
              obtain ⟨ad185,A185_2,c185_2,e185,hx185_0,hx185_1,hx185_2,hx185_3,hl185_2,hi185_2⟩:=at_T41 HR0.out x4_1 p185 q185
              obtain rfl : ad182 = ad185:=(by injection e185)
              replace hx185_0:=(HB.out.cell (World.block_lt_of_cell? w _ hx185_0)).trans hx185_0
              replace hx185_1:=(HB.out.cell (World.block_lt_of_cell? w _ hx185_1)).trans hx185_1
              replace hx185_2:=(HB.out.cell (World.block_lt_of_cell? w _ hx185_2)).trans hx185_2
              replace hx185_3:=(HB.out.cell (World.block_lt_of_cell? w _ hx185_3)).trans hx185_3
              have HR185_2:=Aside0.mk hi185_2
              have HC185_2:=Aside0.mk hl185_2
              clear hi185_2 hl185_2
              replace p185:=eq_true p185
              replace q185:=eq_true q185
              go_wp2
              repeat (go_quiet (fail); try go_wp2)
              go_roundg k3
              case measure => have:=HK1.out; have:=HJ1.out; have:=HK3.out; omega
              case rel => exact ⟨(x3_3),(wrap64 (x4_1 + 1)),(by first | rfl | (simp; done) | (simp [*]; done)),(by first | rfl | (simp; done) | (simp [*]; done)),H',⟨by have:=HK1.out; have:=HJ1.out; have:=HK3.out; omega⟩,⟨by repeat (first | (with_reducible first | exact HB.out | apply below_alloc | apply pw_below_drewN | apply below_drew1) | exact HB.out)⟩⟩
            ·rw [if_neg c11] at H
             have c11b0 : decide (x5_3 < (((rd_T41 l0 x4_1).f2).length : Int)) = false:=decide_eq_false c11
             clear c11
             have H':=Aside0.mk H
             clear H
             have p185 : 0 ≤ (x4_1 : Int):=of_decide_eq_true (by first | (with_reducible assumption) | assumption)
             have q185 : x4_1 < (l0.length : Int):=of_decide_eq_true (by first | (with_reducible assumption) | assumption)
             obtain ⟨ad185,A185_2,c185_2,e185,hx185_0,hx185_1,hx185_2,hx185_3,hl185_2,hi185_2⟩:=at_T41 HR0.out x4_1 p185 q185
             obtain rfl : ad182 = ad185:=(by injection e185)
             replace hx185_0:=(HB.out.cell (World.block_lt_of_cell? w _ hx185_0)).trans hx185_0
             replace hx185_1:=(HB.out.cell (World.block_lt_of_cell? w _ hx185_1)).trans hx185_1
             replace hx185_2:=(HB.out.cell (World.block_lt_of_cell? w _ hx185_2)).trans hx185_2
             replace hx185_3:=(HB.out.cell (World.block_lt_of_cell? w _ hx185_3)).trans hx185_3
             have HR185_2:=Aside0.mk hi185_2
             have HC185_2:=Aside0.mk hl185_2
             clear hi185_2 hl185_2
             replace p185:=eq_true p185
             replace q185:=eq_true q185
             go_wp2
             repeat (go_quiet (fail); try go_wp2)
             go_roundg k3
             case measure => have:=HK1.out; have:=HJ1.out; have:=HK3.out; omega
             case rel => exact ⟨(x3_3),(wrap64 (x4_1 + 1)),(by first | rfl | (simp; done) | (simp [*]; done)),(by first | rfl | (simp; done) | (simp [*]; done)),H',⟨by have:=HK1.out; have:=HJ1.out; have:=HK3.out; omega⟩,⟨by repeat (first | (with_reducible first | exact HB.out | apply below_alloc | apply pw_below_drewN | apply below_drew1) | exact HB.out)⟩⟩
           ·rw [if_neg c10] at H
            exact absurd H (by simp)
          ·rw [if_neg c9] at H
           exact absurd H (by simp)
       ·rw [if_neg c6] at H
        exact absurd H (by simp)
      ·rw [if_neg c5] at H
       exact absurd H (by simp)
     ·replace c4:=Bool.eq_false_iff.mpr c4
      subst c4
      have H1 : (some (decide (x3_1 ≥ 4000))) = some r:=by rw [if_neg (show ¬ (false = true) by decide)] at H; exact H
      clear H
      have H:=H1
      clear H1
      obtain rfl:=Option.some.inj H
      go_wp2
      repeat (go_quiet (fail); try go_wp2)
      go_ret
      exact ⟨by first | rfl | (simp [errW_none,errW_some] <;> rfl) | (simp [*,errW_none,errW_some] <;> rfl),by repeat (first | (with_reducible first | exact HB.out | apply below_alloc | apply pw_below_drewN | apply below_drew1) | exact HB.out)⟩

end Go.Proofs.YthhohbidjhcjeaaGreatDoor.Q
namespace Go.Proofs.YthhohbidjhcjeaaGreatDoor.Q
open Go.RowKit Go.Proofs.YthhohbidjhcjeaaGreatDoorW.PrintWords Go.Proofs.YthhohbidjhcjeaaGreatDoorW.PrintLast Go.Proofs.YthhohbidjhcjeaaGreatDoorW.PrintMore
attribute [local go_sem] max2_int min2_int max_two min_two max_three min_three max_four min_four   -- for this text's walks alone
set_option linter.unusedVariables false
set_option linter.unusedSimpArgs false

-- NOT PRINTED: function 24 (counterpaneref08_Apply)

/-! ### counterpaneref05_Same: function 72 -/
def counterpaneref05_Same.l0 : Nat → List ByteArray → List ByteArray → Int → Option (Bool)
 | 0,_,_,_ => none
 | k + 1,x0,x1,x5 => if x5 < (x0.length : Int) then (if 0 ≤ x5 then (if x5 < (x1.length : Int) then (if (rdOf ByteArray.empty x0 x5).toList = (rdOf ByteArray.empty x1 x5).toList then (counterpaneref05_Same.l0 k x0 x1 (wrap64 (x5 + 1))) else (some false)) else (none)) else (none)) else (some true)
def counterpaneref05_Same.f (k : Nat) (l0 : List ByteArray) (l1 : List ByteArray) : Option (Bool):=if (l0.length : Int) = (l1.length : Int) then (counterpaneref05_Same.l0 k l0 l1 0) else (some false)
theorem counterpaneref05_Same.mono_l : ∀ k,(∀ y0 y1 y2,LeO (counterpaneref05_Same.l0 k y0 y1 y2) (counterpaneref05_Same.l0 (k + 1) y0 y1 y2))
 | 0 => fun _ _ _ r h => by simp [counterpaneref05_Same.l0] at h
 | k + 1 => by
  have ih0:=counterpaneref05_Same.mono_l k
  ·intro y0 y1 y2
   unfold counterpaneref05_Same.l0
   repeat' first
   | (with_reducible exact ih0 _ _ _)
   | (with_reducible exact LeO.refl _)
   | (with_reducible exact LeO.none _)
   | (with_reducible refine LeO.ite ?_ ?_)
   | (with_reducible refine LeO.bind ?_ (fun _ => ?_))
   | exact ih0 _ _ _
   | exact LeO.none _
   | refine LeO.ite ?_ ?_
   | refine LeO.bind ?_ (fun _ => ?_)
theorem counterpaneref05_Same.mono : ∀ a0 a1 k,LeO (counterpaneref05_Same.f k a0 a1) (counterpaneref05_Same.f (k + 1) a0 a1):=by
 intro a0 a1 k
 have ih0:=counterpaneref05_Same.mono_l k
 unfold counterpaneref05_Same.f
 repeat' first
   | (with_reducible exact ih0 _ _ _)
   | (with_reducible exact LeO.refl _)
   | (with_reducible exact LeO.none _)
   | (with_reducible refine LeO.ite ?_ ?_)
   | (with_reducible refine LeO.bind ?_ (fun _ => ?_))
   | exact ih0 _ _ _
   | exact LeO.none _
   | refine LeO.ite ?_ ?_
   | refine LeO.bind ?_ (fun _ => ?_)
set_option maxHeartbeats 8000000 in
set_option maxRecDepth 100000 in
theorem counterpaneref05_Same.calls (k : Nat) (A0 : Option Addr) (c0 : Nat) (l0 : List ByteArray) (A1 : Option Addr) (c1 : Nat) (l1 : List ByteArray) (r : Bool) (w : World) (hr0 : Kd.C Kd.string w A0 l0.length l0) (hc0 : l0.length ≤ c0) (hr1 : Kd.C Kd.string w A1 l1.length l1) (hc1 : l1.length ≤ c1) (h : counterpaneref05_Same.f k l0 l1 = some r) :
  Calls Tryz.prog 72 #[.slice A0 l0.length c0,.slice A1 l1.length c1] w fun e w' => e = .returned (.bool r) ∧ Drawn0 w w':=by
 have HR0:=Aside0.mk hr0
 have HC0:=Aside0.mk hc0
 clear hr0 hc0
 have HR1:=Aside0.mk hr1
 have HC1:=Aside0.mk hc1
 clear hr1 hc1
 have H : (if (l0.length : Int) = (l1.length : Int) then (counterpaneref05_Same.l0 k l0 l1 0) else (some false)) = some r:=h
 clear h
 by_cases c3 : (l0.length : Int) = (l1.length : Int)
 ·rw [if_pos c3] at H
  have c3b0 : ((l0.length : Int) == (l1.length : Int)) = true:=beq_iff_eq.mpr c3
  have c3b1 : ((l0.length : Int) != (l1.length : Int)) = false:=bne_eq_false_iff_eq.mpr c3
  have c3b2 : (l0.length == l1.length) = true:=by first | simpa using c3 | (simp at c3 ⊢; omega)
  clear c3
  have H':=Aside0.mk H
  clear H
  go_enter Tryz.func72,Tryz.ntmps72
  go_wp2
  repeat (go_quiet (fail); try go_wp2)
  go_loopg [5] k (fun kq v5 w' => ∃ (x5_1 : Int),v5 = .int .i64 x5_1 ∧ Aside0 (counterpaneref05_Same.l0 kq l0 l1 x5_1 = some r) ∧ Aside0 (kq ≤ k) ∧ Drawn0 w w')
  case atStart => exact ⟨(0),(by first | rfl | (simp; done) | (simp [*]; done)),H',⟨Nat.le_refl _⟩,by repeat (first | exact Drawn0.refl _ | apply Drawn0.step)⟩
  case round =>
   clear H'
   try clear c1
   try clear p2
   try clear c3
   try clear c3b0
   try clear c3b1
   try clear c3b2
   obtain ⟨x5_1,rfl,HA,HK1,⟨m1,rfl⟩⟩:=hrel
   cases gk with
   | zero => exact absurd HA.out (by simp [counterpaneref05_Same.l0])
   | succ k1 =>
    have H:=HA.out
    clear HA
    simp only [counterpaneref05_Same.l0] at H
    by_cases c4 : x5_1 < (l0.length : Int)
    ·rw [if_pos c4] at H
     have c4b0 : decide (x5_1 < (l0.length : Int)) = true:=decide_eq_true c4
     clear c4
     by_cases c5 : 0 ≤ x5_1
     ·rw [if_pos c5] at H
      have c5b0 : decide (0 ≤ x5_1) = true:=decide_eq_true c5
      clear c5
      by_cases c6 : x5_1 < (l1.length : Int)
      ·rw [if_pos c6] at H
       have c6b0 : decide (x5_1 < (l1.length : Int)) = true:=decide_eq_true c6
       clear c6
       by_cases c7 : (rdOf ByteArray.empty l0 x5_1).toList = (rdOf ByteArray.empty l1 x5_1).toList
       ·rw [if_pos c7] at H
        have c7b0 : ((rdOf ByteArray.empty l0 x5_1).toList == (rdOf ByteArray.empty l1 x5_1).toList) = true:=beq_iff_eq.mpr c7
        have c7b1 : ((rdOf ByteArray.empty l0 x5_1).toList != (rdOf ByteArray.empty l1 x5_1).toList) = false:=bne_eq_false_iff_eq.mpr c7
        clear c7
        have H':=Aside0.mk H
        clear H
        have p392 : 0 ≤ (x5_1 : Int):=of_decide_eq_true (by first | (with_reducible assumption) | assumption)
        have q392 : x5_1 < (l0.length : Int):=of_decide_eq_true (by first | (with_reducible assumption) | assumption)
        obtain ⟨ad392,e392,hx392_0⟩:=Kd.at_string HR0.out x5_1 p392 q392
        cases e392
        replace p392:=eq_true p392
        replace q392:=eq_true q392
        have p393 : 0 ≤ (x5_1 : Int):=of_decide_eq_true (by first | (with_reducible assumption) | assumption)
        have q393 : x5_1 < (l1.length : Int):=of_decide_eq_true (by first | (with_reducible assumption) | assumption)
        obtain ⟨ad393,e393,hx393_0⟩:=Kd.at_string HR1.out x5_1 p393 q393
        cases e393
        replace p393:=eq_true p393
        replace q393:=eq_true q393
        go_wp2
        repeat (go_quiet (fail); try go_wp2)
        go_roundg k1
        case measure => have:=HK1.out; omega
        case rel => exact ⟨(wrap64 (x5_1 + 1)),(by first | rfl | (simp; done) | (simp [*]; done)),H',⟨by have:=HK1.out; omega⟩,by repeat (first | exact Drawn0.refl _ | apply Drawn0.step)⟩
       ·rw [if_neg c7] at H
        have c7b0 : ((rdOf ByteArray.empty l0 x5_1).toList == (rdOf ByteArray.empty l1 x5_1).toList) = false:=beq_eq_false_iff_ne.mpr c7
        have c7b1 : ((rdOf ByteArray.empty l0 x5_1).toList != (rdOf ByteArray.empty l1 x5_1).toList) = true:=bne_iff_ne.mpr c7
        obtain rfl:=Option.some.inj H
        have p392 : 0 ≤ (x5_1 : Int):=of_decide_eq_true (by first | (with_reducible assumption) | assumption)
        have q392 : x5_1 < (l0.length : Int):=of_decide_eq_true (by first | (with_reducible assumption) | assumption)
        obtain ⟨ad392,e392,hx392_0⟩:=Kd.at_string HR0.out x5_1 p392 q392
        cases e392
        replace p392:=eq_true p392
        replace q392:=eq_true q392
        have p393 : 0 ≤ (x5_1 : Int):=of_decide_eq_true (by first | (with_reducible assumption) | assumption)
        have q393 : x5_1 < (l1.length : Int):=of_decide_eq_true (by first | (with_reducible assumption) | assumption)
        obtain ⟨ad393,e393,hx393_0⟩:=Kd.at_string HR1.out x5_1 p393 q393
        cases e393
        replace p393:=eq_true p393
        replace q393:=eq_true q393
        go_wp2
        repeat (go_quiet (fail); try go_wp2)
        go_ret
        exact ⟨by first | rfl | (simp; done) | (simp [*]; done),by repeat (first | exact Drawn0.refl _ | apply Drawn0.step)⟩
      ·rw [if_neg c6] at H
       exact absurd H (by simp)
     ·rw [if_neg c5] at H
      exact absurd H (by simp)
    ·rw [if_neg c4] at H
     have c4b0 : decide (x5_1 < (l0.length : Int)) = false:=decide_eq_false c4
     clear c4
     obtain rfl:=Option.some.inj H
     go_wp2
     repeat (go_quiet (fail); try go_wp2)
     go_ret
     exact ⟨by first | rfl | (simp; done) | (simp [*]; done),by repeat (first | exact Drawn0.refl _ | apply Drawn0.step)⟩
 ·rw [if_neg c3] at H
  have c3b0 : ((l0.length : Int) == (l1.length : Int)) = false:=beq_eq_false_iff_ne.mpr c3
  have c3b1 : ((l0.length : Int) != (l1.length : Int)) = true:=bne_iff_ne.mpr c3
  have c3b2 : (l0.length == l1.length) = false:=by first | simpa using c3 | (simp at c3 ⊢; omega)
  obtain rfl:=Option.some.inj H
  go_enter Tryz.func72,Tryz.ntmps72
  go_wp2
  repeat (go_quiet (fail); try go_wp2)
  go_ret
  exact ⟨by first | rfl | (simp; done) | (simp [*]; done),by repeat (first | exact Drawn0.refl _ | apply Drawn0.step)⟩

end Go.Proofs.YthhohbidjhcjeaaGreatDoor.Q
namespace Go.Proofs.YthhohbidjhcjeaaGreatDoor.Q
open Go.RowKit Go.Proofs.YthhohbidjhcjeaaGreatDoorW.PrintWords Go.Proofs.YthhohbidjhcjeaaGreatDoorW.PrintLast Go.Proofs.YthhohbidjhcjeaaGreatDoorW.PrintMore
attribute [local go_sem] max2_int min2_int max_two min_two max_three min_three max_four min_four   -- for this text's walks alone
set_option linter.unusedVariables false
set_option linter.unusedSimpArgs false

/-! ### counterpaneref07_Same: function 27 -/
end Go.Proofs.YthhohbidjhcjeaaGreatDoor.Q
namespace Go.Proofs.YthhohbidjhcjeaaGreatDoor.Q
open Go.RowKit Go.Proofs.YthhohbidjhcjeaaGreatDoorW.PrintWords Go.Proofs.YthhohbidjhcjeaaGreatDoorW.PrintLast Go.Proofs.YthhohbidjhcjeaaGreatDoorW.PrintMore
attribute [local go_sem] max2_int min2_int max_two min_two max_three min_three max_four min_four   -- for this text's walks alone
set_option linter.unusedVariables false
set_option linter.unusedSimpArgs false

-- NOT PRINTED: function 144 (strings_splitSeq)

-- NOT PRINTED: function 111 (strings_SplitSeq)

-- NOT PRINTED: function 191 (strings_indexFunc)

-- NOT PRINTED: function 176 (strings_IndexFunc)

-- NOT PRINTED: function 145 (strings_ContainsFunc)

-- NOT PRINTED: function 112 (path_part)

/-! ### lines_in: function 113 -/
def lines_in.f (a0 : Int) : Option (Bool):=if a0 = 95 then (some true) else (if 97 ≤ (Go.bits .or .u8 a0 32) then (if (Go.bits .or .u8 a0 32) ≤ 122 then (some true) else (if 48 ≤ a0 then (some (decide (a0 ≤ 57))) else (some false))) else (if 48 ≤ a0 then (some (decide (a0 ≤ 57))) else (some false)))
set_option maxHeartbeats 8000000 in
set_option maxRecDepth 100000 in
theorem lines_in.calls (a0 : Int) (r : Bool) (w : World) (h : lines_in.f a0 = some r) :
  Calls Tryz.prog 113 #[.int .u8 a0] w fun e w' => e = .returned (.bool r) ∧ Drawn0 w w':=by
 have H : (if a0 = 95 then (some true) else (if 97 ≤ (Go.bits .or .u8 a0 32) then (if (Go.bits .or .u8 a0 32) ≤ 122 then (some true) else (if 48 ≤ a0 then (some (decide (a0 ≤ 57))) else (some false))) else (if 48 ≤ a0 then (some (decide (a0 ≤ 57))) else (some false)))) = some r:=h
 clear h
 by_cases c2 : a0 = 95
 ·rw [if_pos c2] at H
  have c2b0 : (a0 == 95) = true:=beq_iff_eq.mpr c2
  have c2b1 : (a0 != 95) = false:=bne_eq_false_iff_eq.mpr c2
  clear c2
  obtain rfl:=Option.some.inj H
  go_enter Tryz.func113,Tryz.ntmps113
  go_wp2
  go_ret
  exact ⟨by first | rfl | (simp; done) | (simp [*]; done) | (simp [show ∀ l : List UInt8,(l != []) = !l.isEmpty from fun l => by cases l <;> rfl]; done),by repeat (first | exact Drawn0.refl _ | apply Drawn0.step)⟩
 ·rw [if_neg c2] at H
  have c2b0 : (a0 == 95) = false:=beq_eq_false_iff_ne.mpr c2
  have c2b1 : (a0 != 95) = true:=bne_iff_ne.mpr c2
  by_cases c3 : 97 ≤ (Go.bits .or .u8 a0 32)
  ·rw [if_pos c3] at H
   have c3b0 : decide (97 ≤ (Go.bits .or .u8 a0 32)) = true:=decide_eq_true c3
   clear c3
   by_cases c4 : (Go.bits .or .u8 a0 32) ≤ 122
   ·rw [if_pos c4] at H
    have c4b0 : decide ((Go.bits .or .u8 a0 32) ≤ 122) = true:=decide_eq_true c4
    clear c4
    obtain rfl:=Option.some.inj H
    go_enter Tryz.func113,Tryz.ntmps113
    go_wp2
    go_ret
    exact ⟨by first | rfl | (simp; done) | (simp [*]; done) | (simp [show ∀ l : List UInt8,(l != []) = !l.isEmpty from fun l => by cases l <;> rfl]; done),by repeat (first | exact Drawn0.refl _ | apply Drawn0.step)⟩
   ·rw [if_neg c4] at H
    have c4b0 : decide ((Go.bits .or .u8 a0 32) ≤ 122) = false:=decide_eq_false c4
    clear c4
    by_cases c5 : 48 ≤ a0
    ·rw [if_pos c5] at H
     have c5b0 : decide (48 ≤ a0) = true:=decide_eq_true c5
     clear c5
     obtain rfl:=Option.some.inj H
     go_enter Tryz.func113,Tryz.ntmps113
     go_wp2
     go_ret
     exact ⟨by first | rfl | (simp; done) | (simp [*]; done) | (simp [show ∀ l : List UInt8,(l != []) = !l.isEmpty from fun l => by cases l <;> rfl]; done),by repeat (first | exact Drawn0.refl _ | apply Drawn0.step)⟩
    ·rw [if_neg c5] at H
     have c5b0 : decide (48 ≤ a0) = false:=decide_eq_false c5
     clear c5
     obtain rfl:=Option.some.inj H
     go_enter Tryz.func113,Tryz.ntmps113
     go_wp2
     go_ret
     exact ⟨by first | rfl | (simp; done) | (simp [*]; done) | (simp [show ∀ l : List UInt8,(l != []) = !l.isEmpty from fun l => by cases l <;> rfl]; done),by repeat (first | exact Drawn0.refl _ | apply Drawn0.step)⟩
  ·rw [if_neg c3] at H
   have c3b0 : decide (97 ≤ (Go.bits .or .u8 a0 32)) = false:=decide_eq_false c3
   clear c3
   by_cases c6 : 48 ≤ a0
   ·rw [if_pos c6] at H
    have c6b0 : decide (48 ≤ a0) = true:=decide_eq_true c6
    clear c6
    obtain rfl:=Option.some.inj H
    go_enter Tryz.func113,Tryz.ntmps113
    go_wp2
    go_ret
    exact ⟨by first | rfl | (simp; done) | (simp [*]; done) | (simp [show ∀ l : List UInt8,(l != []) = !l.isEmpty from fun l => by cases l <;> rfl]; done),by repeat (first | exact Drawn0.refl _ | apply Drawn0.step)⟩
   ·rw [if_neg c6] at H
    have c6b0 : decide (48 ≤ a0) = false:=decide_eq_false c6
    clear c6
    obtain rfl:=Option.some.inj H
    go_enter Tryz.func113,Tryz.ntmps113
    go_wp2
    go_ret
    exact ⟨by first | rfl | (simp; done) | (simp [*]; done) | (simp [show ∀ l : List UInt8,(l != []) = !l.isEmpty from fun l => by cases l <;> rfl]; done),by repeat (first | exact Drawn0.refl _ | apply Drawn0.step)⟩

/-! ### lines_Token: function 67 -/
def lines_Token.l0 : Nat → ByteArray → Int → Int → Option (Bool)
 | 0,_,_,_ => none
 | k + 1,x0,x5,x6 => if x6 < x5 then (if 0 ≤ x6 then (if x6 < (x0.size : Int) then ((lines_in.f (bt x0 x6)).bind fun t101 => (if t101 = true then (lines_Token.l0 k x0 x5 (wrap64 (x6 + 1))) else (some false))) else (none)) else (none)) else (some (x0.toList != ([] : List UInt8)))
def lines_Token.f (k : Nat) (a0 : ByteArray) : Option (Bool):=lines_Token.l0 k a0 (a0.size : Int) 0
theorem lines_Token.mono_l : ∀ k,(∀ y0 y1 y2,LeO (lines_Token.l0 k y0 y1 y2) (lines_Token.l0 (k + 1) y0 y1 y2))
 | 0 => fun _ _ _ r h => by simp [lines_Token.l0] at h
 | k + 1 => by
  have ih0:=lines_Token.mono_l k
  ·intro y0 y1 y2
   unfold lines_Token.l0
   repeat' first
   | (with_reducible exact ih0 _ _ _)
   | (with_reducible exact LeO.refl _)
   | (with_reducible exact LeO.none _)
   | (with_reducible refine LeO.ite ?_ ?_)
   | (with_reducible refine LeO.bind ?_ (fun _ => ?_))
   | exact ih0 _ _ _
   | exact LeO.none _
   | refine LeO.ite ?_ ?_
   | refine LeO.bind ?_ (fun _ => ?_)
theorem lines_Token.mono : ∀ a0 k,LeO (lines_Token.f k a0) (lines_Token.f (k + 1) a0):=by
 intro a0 k
 have ih0:=lines_Token.mono_l k
 unfold lines_Token.f
 repeat' first
   | (with_reducible exact ih0 _ _ _)
   | (with_reducible exact LeO.refl _)
   | (with_reducible exact LeO.none _)
   | (with_reducible refine LeO.ite ?_ ?_)
   | (with_reducible refine LeO.bind ?_ (fun _ => ?_))
   | exact ih0 _ _ _
   | exact LeO.none _
   | refine LeO.ite ?_ ?_
   | refine LeO.bind ?_ (fun _ => ?_)
set_option maxHeartbeats 8000000 in
set_option maxRecDepth 100000 in
theorem lines_Token.calls (k : Nat) (a0 : ByteArray) (r : Bool) (w : World) (h : lines_Token.f k a0 = some r) :
  Calls Tryz.prog 67 #[.string a0] w fun e w' => e = .returned (.bool r) ∧ Drawn0 w w':=by
 have H : (lines_Token.l0 k a0 (a0.size : Int) 0) = some r:=h
 clear h
 have H':=Aside0.mk H
 clear H
 go_enter Tryz.func67,Tryz.ntmps67
 go_wp2
 go_loopg [6] k (fun kq v6 w' => ∃ (x6_1 : Int),v6 = .int .i64 x6_1 ∧ Aside0 (lines_Token.l0 kq a0 (a0.size : Int) x6_1 = some r) ∧ Aside0 (kq ≤ k) ∧ Drawn0 w w')
 case atStart => exact ⟨(0),(by first | rfl | (simp; done) | (simp [*]; done)),H',⟨Nat.le_refl _⟩,by repeat (first | exact Drawn0.refl _ | apply Drawn0.step)⟩
 case round =>
  clear H'
  obtain ⟨x6_1,rfl,HA,HK1,⟨m1,rfl⟩⟩:=hrel
  cases gk with
  | zero => exact absurd HA.out (by simp [lines_Token.l0])
  | succ k1 =>
   have H:=HA.out
   clear HA
   simp only [lines_Token.l0] at H
   by_cases c2 : x6_1 < (a0.size : Int)
   ·rw [if_pos c2] at H
    have c2b0 : decide (x6_1 < (a0.size : Int)) = true:=decide_eq_true c2
    clear c2
    by_cases c3 : 0 ≤ x6_1
    ·rw [if_pos c3] at H
     have c3b0 : decide (0 ≤ x6_1) = true:=decide_eq_true c3
     clear c3
     by_cases c4 : x6_1 < (a0.size : Int)
     ·rw [if_pos c4] at H
      have c4b0 : decide (x6_1 < (a0.size : Int)) = true:=decide_eq_true c4
      clear c4
      replace H:=Option.bind_eq_some_iff.mp H
      obtain ⟨t101,A60,H⟩:=H
      replace H : (if t101 = true then (lines_Token.l0 k1 a0 (a0.size : Int) (wrap64 (x6_1 + 1))) else (some false)) = some r:=H
      have A6:=Aside0.mk A60
      clear A60
      by_cases c7 : t101 = true
      ·subst c7
       have H1 : (lines_Token.l0 k1 a0 (a0.size : Int) (wrap64 (x6_1 + 1))) = some r:=by rw [if_pos rfl] at H; exact H
       clear H
       have H:=H1
       clear H1
       have H':=Aside0.mk H
       clear H
       have p5 : 0 ≤ (x6_1 : Int):=of_decide_eq_true (by first | (with_reducible assumption) | assumption)
       have q5 : x6_1 < (a0.size : Int):=of_decide_eq_true (by first | (with_reducible assumption) | assumption)
       have hx5:=bt_at a0 x6_1
       replace p5:=eq_true p5
       replace q5:=eq_true q5
       go_wp2_with (first | ((with_reducible refine gate_callee (f:=113) rfl ?_); refine goesL_ (some 12) rfl rfl Tryz.func113 (by kernel_rfl) rfl #[.int .u8 (bt a0 x6_1)] rfl (by (try simp only [List.map_toArray,List.map_cons,List.map_nil]); first | done | rfl | (simp only [List.length_drop,List.length_take]; rfl)) ?_; (with_reducible refine (lines_in.calls (bt a0 x6_1) true _ A6.out).mono ?_); rintro e w' ⟨rfl,⟨nd,rfl⟩⟩; refine ⟨_,rfl,?_⟩))
       go_roundg k1
       case measure => have:=HK1.out; omega
       case rel => exact ⟨(wrap64 (x6_1 + 1)),(by first | rfl | (simp; done) | (simp [*]; done)),H',⟨by have:=HK1.out; omega⟩,by repeat (first | exact Drawn0.refl _ | apply Drawn0.step)⟩
      ·replace c7:=Bool.eq_false_iff.mpr c7
       subst c7
       have H1 : (some false) = some r:=by rw [if_neg (show ¬ (false = true) by decide)] at H; exact H
       clear H
       have H:=H1
       clear H1
       obtain rfl:=Option.some.inj H
       have p5 : 0 ≤ (x6_1 : Int):=of_decide_eq_true (by first | (with_reducible assumption) | assumption)
       have q5 : x6_1 < (a0.size : Int):=of_decide_eq_true (by first | (with_reducible assumption) | assumption)
       have hx5:=bt_at a0 x6_1
       replace p5:=eq_true p5
       replace q5:=eq_true q5
       go_wp2_with (first | ((with_reducible refine gate_callee (f:=113) rfl ?_); refine goesL_ (some 12) rfl rfl Tryz.func113 (by kernel_rfl) rfl #[.int .u8 (bt a0 x6_1)] rfl (by (try simp only [List.map_toArray,List.map_cons,List.map_nil]); first | done | rfl | (simp only [List.length_drop,List.length_take]; rfl)) ?_; (with_reducible refine (lines_in.calls (bt a0 x6_1) false _ A6.out).mono ?_); rintro e w' ⟨rfl,⟨nd,rfl⟩⟩; refine ⟨_,rfl,?_⟩))
       go_ret
       exact ⟨by first | rfl | (simp; done) | (simp [*]; done) | (simp [show ∀ l : List UInt8,(l != []) = !l.isEmpty from fun l => by cases l <;> rfl]; done),by repeat (first | exact Drawn0.refl _ | apply Drawn0.step)⟩
     ·rw [if_neg c4] at H
      exact absurd H (by simp)
    ·rw [if_neg c3] at H
     exact absurd H (by simp)
   ·rw [if_neg c2] at H
    have c2b0 : decide (x6_1 < (a0.size : Int)) = false:=decide_eq_false c2
    clear c2
    obtain rfl:=Option.some.inj H
    go_wp2
    go_ret
    exact ⟨by first | rfl | (simp; done) | (simp [*]; done) | (simp [show ∀ l : List UInt8,(l != []) = !l.isEmpty from fun l => by cases l <;> rfl]; done),by repeat (first | exact Drawn0.refl _ | apply Drawn0.step)⟩

/-! ### stringslite_HasPrefix: function 182 -/
def stringslite_HasPrefix.f (a0 : ByteArray) (a1 : ByteArray) : Option (Bool):=if (a0.size : Int) ≥ (a1.size : Int) then (if 0 ≤ (a1.size : Int) then (if (a1.size : Int) ≤ (a0.size : Int) then (some ((a0.extract 0 ((a1.size : Int) : Int).toNat).toList == a1.toList)) else (none)) else (none)) else (some false)
set_option maxHeartbeats 8000000 in
set_option maxRecDepth 100000 in
theorem stringslite_HasPrefix.calls (a0 : ByteArray) (a1 : ByteArray) (r : Bool) (w : World) (h : stringslite_HasPrefix.f a0 a1 = some r) :
  Calls Tryz.prog 182 #[.string a0,.string a1] w fun e w' => e = .returned (.bool r) ∧ Drawn0 w w':=by
 have H : (if (a0.size : Int) ≥ (a1.size : Int) then (if 0 ≤ (a1.size : Int) then (if (a1.size : Int) ≤ (a0.size : Int) then (some ((a0.extract 0 ((a1.size : Int) : Int).toNat).toList == a1.toList)) else (none)) else (none)) else (some false)) = some r:=h
 clear h
 by_cases c3 : (a0.size : Int) ≥ (a1.size : Int)
 ·rw [if_pos c3] at H
  have c3b0 : decide ((a1.size : Int) ≤ (a0.size : Int)) = true:=decide_eq_true c3
  have c3b1 : decide (a1.size ≤ a0.size) = true:=decide_eq_true (Int.ofNat_le.mp c3)
  clear c3
  by_cases c4 : 0 ≤ (a1.size : Int)
  ·rw [if_pos c4] at H
   have c4b0:=eq_true c4
   have c4b1 : decide (0 ≤ (a1.size : Int)) = true:=decide_eq_true c4
   clear c4
   by_cases c5 : (a1.size : Int) ≤ (a0.size : Int)
   ·rw [if_pos c5] at H
    have c5b0:=eq_true c5
    have c5b1 : decide ((a1.size : Int) ≤ (a0.size : Int)) = true:=decide_eq_true c5
    clear c5
    obtain rfl:=Option.some.inj H
    go_enter Tryz.func182,Tryz.ntmps182
    go_wp2
    go_ret
    exact ⟨by first | rfl | (simp; done) | (simp [*]; done) | (simp [show ∀ l : List UInt8,(l != []) = !l.isEmpty from fun l => by cases l <;> rfl]; done),by repeat (first | exact Drawn0.refl _ | apply Drawn0.step)⟩
   ·rw [if_neg c5] at H
    exact absurd H (by simp)
  ·rw [if_neg c4] at H
   exact absurd H (by simp)
 ·rw [if_neg c3] at H
  have c3b0 : decide ((a1.size : Int) ≤ (a0.size : Int)) = false:=decide_eq_false c3
  have c3b1 : decide (a1.size ≤ a0.size) = false:=decide_eq_false (fun h => c3 (Int.ofNat_le.mpr h))
  clear c3
  obtain rfl:=Option.some.inj H
  go_enter Tryz.func182,Tryz.ntmps182
  go_wp2
  go_ret
  exact ⟨by first | rfl | (simp; done) | (simp [*]; done) | (simp [show ∀ l : List UInt8,(l != []) = !l.isEmpty from fun l => by cases l <;> rfl]; done),by repeat (first | exact Drawn0.refl _ | apply Drawn0.step)⟩

/-! ### stringslite_CutPrefix: function 159 -/
def stringslite_CutPrefix.f (a0 : ByteArray) (a1 : ByteArray) : Option (ByteArray × Bool):=(stringslite_HasPrefix.f a0 a1).bind fun t102 => (if t102 = true then (if 0 ≤ (a1.size : Int) then (if (a1.size : Int) ≤ (a0.size : Int) then (some (a0.extract ((a1.size : Int) : Int).toNat a0.size,true)) else (none)) else (none)) else (some (a0,false)))
set_option maxHeartbeats 8000000 in
set_option maxRecDepth 100000 in
theorem stringslite_CutPrefix.calls (a0 : ByteArray) (a1 : ByteArray) (r1 : ByteArray) (r2 : Bool) (w : World) (h : stringslite_CutPrefix.f a0 a1 = some (r1,r2)) :
  Calls Tryz.prog 159 #[.string a0,.string a1] w fun e w' => e = .returned (.tuple #[.string r1,.bool r2]) ∧ Drawn0 w w':=by
 have H : ((stringslite_HasPrefix.f a0 a1).bind fun t102 => (if t102 = true then (if 0 ≤ (a1.size : Int) then (if (a1.size : Int) ≤ (a0.size : Int) then (some (a0.extract ((a1.size : Int) : Int).toNat a0.size,true)) else (none)) else (none)) else (some (a0,false)))) = some (r1,r2):=h
 clear h
 replace H:=Option.bind_eq_some_iff.mp H
 obtain ⟨t102,A30,H⟩:=H
 replace H : (if t102 = true then (if 0 ≤ (a1.size : Int) then (if (a1.size : Int) ≤ (a0.size : Int) then (some (a0.extract ((a1.size : Int) : Int).toNat a0.size,true)) else (none)) else (none)) else (some (a0,false))) = some (r1,r2):=H
 have A3:=Aside0.mk A30
 clear A30
 by_cases c4 : t102 = true
 ·subst c4
  have H1 : (if 0 ≤ (a1.size : Int) then (if (a1.size : Int) ≤ (a0.size : Int) then (some (a0.extract ((a1.size : Int) : Int).toNat a0.size,true)) else (none)) else (none)) = some (r1,r2):=by rw [if_pos rfl] at H; exact H
  clear H
  have H:=H1
  clear H1
  by_cases c5 : 0 ≤ (a1.size : Int)
  ·rw [if_pos c5] at H
   have c5b0:=eq_true c5
   have c5b1 : decide (0 ≤ (a1.size : Int)) = true:=decide_eq_true c5
   clear c5
   by_cases c6 : (a1.size : Int) ≤ (a0.size : Int)
   ·rw [if_pos c6] at H
    have c6b0:=eq_true c6
    have c6b1 : decide ((a1.size : Int) ≤ (a0.size : Int)) = true:=decide_eq_true c6
    clear c6
    simp only [Option.some.injEq,Prod.mk.injEq] at H
    obtain ⟨rfl,rfl⟩:=H
    go_enter Tryz.func159,Tryz.ntmps159
    go_wp2_with (first | ((with_reducible refine gate_callee (f:=182) rfl ?_); refine goesL_ (some 8) rfl rfl Tryz.func182 (by kernel_rfl) rfl #[.string a0,.string a1] rfl (by (try simp only [List.map_toArray,List.map_cons,List.map_nil]); first | done | rfl | (simp only [List.length_drop,List.length_take]; rfl)) ?_; (with_reducible refine (stringslite_HasPrefix.calls a0 a1 true _ A3.out).mono ?_); rintro e w' ⟨rfl,⟨nd,rfl⟩⟩; refine ⟨_,rfl,?_⟩))
    go_ret2
    exact ⟨by first | rfl | (simp; done) | (simp [*]; done) | (simp [show ∀ l : List UInt8,(l != []) = !l.isEmpty from fun l => by cases l <;> rfl]; done),by repeat (first | exact Drawn0.refl _ | apply Drawn0.step)⟩
   ·rw [if_neg c6] at H
    exact absurd H (by simp)
  ·rw [if_neg c5] at H
   exact absurd H (by simp)
 ·replace c4:=Bool.eq_false_iff.mpr c4
  subst c4
  have H1 : (some (a0,false)) = some (r1,r2):=by rw [if_neg (show ¬ (false = true) by decide)] at H; exact H
  clear H
  have H:=H1
  clear H1
  simp only [Option.some.injEq,Prod.mk.injEq] at H
  obtain ⟨rfl,rfl⟩:=H
  go_enter Tryz.func159,Tryz.ntmps159
  go_wp2_with (first | ((with_reducible refine gate_callee (f:=182) rfl ?_); refine goesL_ (some 8) rfl rfl Tryz.func182 (by kernel_rfl) rfl #[.string a0,.string a1] rfl (by (try simp only [List.map_toArray,List.map_cons,List.map_nil]); first | done | rfl | (simp only [List.length_drop,List.length_take]; rfl)) ?_; (with_reducible refine (stringslite_HasPrefix.calls a0 a1 false _ A3.out).mono ?_); rintro e w' ⟨rfl,⟨nd,rfl⟩⟩; refine ⟨_,rfl,?_⟩))
  go_ret2
  exact ⟨by first | rfl | (simp; done) | (simp [*]; done) | (simp [show ∀ l : List UInt8,(l != []) = !l.isEmpty from fun l => by cases l <;> rfl]; done),by repeat (first | exact Drawn0.refl _ | apply Drawn0.step)⟩

/-! ### strings_CutPrefix: function 134 -/
def strings_CutPrefix.f (a0 : ByteArray) (a1 : ByteArray) : Option (ByteArray × Bool):=(stringslite_CutPrefix.f a0 a1).bind fun bt103 => (some (bt103.1,bt103.2))
set_option maxHeartbeats 8000000 in
set_option maxRecDepth 100000 in
theorem strings_CutPrefix.calls (a0 : ByteArray) (a1 : ByteArray) (r1 : ByteArray) (r2 : Bool) (w : World) (h : strings_CutPrefix.f a0 a1 = some (r1,r2)) :
  Calls Tryz.prog 134 #[.string a0,.string a1] w fun e w' => e = .returned (.tuple #[.string r1,.bool r2]) ∧ Drawn0 w w':=by
 have H : ((stringslite_CutPrefix.f a0 a1).bind fun bt103 => (some (bt103.1,bt103.2))) = some (r1,r2):=h
 clear h
 replace H:=Option.bind_eq_some_iff.mp H
 obtain ⟨⟨t103,t104⟩,A30,H⟩:=H
 replace H : (some (t103,t104)) = some (r1,r2):=H
 have A3:=Aside0.mk A30
 clear A30
 simp only [Option.some.injEq,Prod.mk.injEq] at H
 obtain ⟨rfl,rfl⟩:=H
 go_enter Tryz.func134,Tryz.ntmps134
 go_wp2_with (first | ((with_reducible refine gate_callee (f:=159) rfl ?_); refine goesL_ (some 8) rfl rfl Tryz.func159 (by kernel_rfl) rfl #[.string a0,.string a1] rfl (by (try simp only [List.map_toArray,List.map_cons,List.map_nil]); first | done | rfl | (simp only [List.length_drop,List.length_take]; rfl)) ?_; (with_reducible refine (stringslite_CutPrefix.calls a0 a1 t103 t104 _ A3.out).mono ?_); rintro e w' ⟨rfl,⟨nd,rfl⟩⟩; refine ⟨_,rfl,?_⟩))
 go_ret2
 exact ⟨by first | rfl | (simp; done) | (simp [*]; done) | (simp [show ∀ l : List UInt8,(l != []) = !l.isEmpty from fun l => by cases l <;> rfl]; done),by repeat (first | exact Drawn0.refl _ | apply Drawn0.step)⟩

/-! ### path_Within: function 98 -/
def path_Within.f (a0 : ByteArray) (a1 : ByteArray) : Option (Bool):=(strings_CutPrefix.f a0 a1).bind fun bt105 => (if bt105.2 = true then (if bt105.1.toList = ([] : List UInt8) then (some true) else (if 0 < (bt105.1.size : Int) then (some ((bt bt105.1 0) == 47)) else (none))) else (some false))
set_option maxHeartbeats 8000000 in
set_option maxRecDepth 100000 in
theorem path_Within.calls (a0 : ByteArray) (a1 : ByteArray) (r : Bool) (w : World) (h : path_Within.f a0 a1 = some r) :
  Calls Tryz.prog 98 #[.string a0,.string a1] w fun e w' => e = .returned (.bool r) ∧ Drawn0 w w':=by
 have H : ((strings_CutPrefix.f a0 a1).bind fun bt105 => (if bt105.2 = true then (if bt105.1.toList = ([] : List UInt8) then (some true) else (if 0 < (bt105.1.size : Int) then (some ((bt bt105.1 0) == 47)) else (none))) else (some false))) = some r:=h
 clear h
 replace H:=Option.bind_eq_some_iff.mp H
 obtain ⟨⟨t105,t106⟩,A30,H⟩:=H
 replace H : (if t106 = true then (if t105.toList = ([] : List UInt8) then (some true) else (if 0 < (t105.size : Int) then (some ((bt t105 0) == 47)) else (none))) else (some false)) = some r:=H
 have A3:=Aside0.mk A30
 clear A30
 by_cases c4 : t106 = true
 ·subst c4
  have H1 : (if t105.toList = ([] : List UInt8) then (some true) else (if 0 < (t105.size : Int) then (some ((bt t105 0) == 47)) else (none))) = some r:=by rw [if_pos rfl] at H; exact H
  clear H
  have H:=H1
  clear H1
  by_cases c5 : t105.toList = ([] : List UInt8)
  ·rw [if_pos c5] at H
   have c5b0 : (t105.toList == ([] : List UInt8)) = true:=beq_iff_eq.mpr c5
   have c5b1 : (t105.toList != ([] : List UInt8)) = false:=bne_eq_false_iff_eq.mpr c5
   clear c5
   obtain rfl:=Option.some.inj H
   go_enter Tryz.func98,Tryz.ntmps98
   go_wp2_with (first | ((with_reducible refine gate_callee (f:=134) rfl ?_); refine goesL_ (some 10) rfl rfl Tryz.func134 (by kernel_rfl) rfl #[.string a0,.string a1] rfl (by (try simp only [List.map_toArray,List.map_cons,List.map_nil]); first | done | rfl | (simp only [List.length_drop,List.length_take]; rfl)) ?_; (with_reducible refine (strings_CutPrefix.calls a0 a1 t105 true _ A3.out).mono ?_); rintro e w' ⟨rfl,⟨nd,rfl⟩⟩; refine ⟨_,rfl,?_⟩))
   go_ret
   exact ⟨by first | rfl | (simp; done) | (simp [*]; done) | (simp [show ∀ l : List UInt8,(l != []) = !l.isEmpty from fun l => by cases l <;> rfl]; done),by repeat (first | exact Drawn0.refl _ | apply Drawn0.step)⟩
  ·rw [if_neg c5] at H
   have c5b0 : (t105.toList == ([] : List UInt8)) = false:=beq_eq_false_iff_ne.mpr c5
   have c5b1 : (t105.toList != ([] : List UInt8)) = true:=bne_iff_ne.mpr c5
   by_cases c6 : 0 < (t105.size : Int)
   ·rw [if_pos c6] at H
    have c6b0 : decide (0 < (t105.size : Int)) = true:=decide_eq_true c6
    have c6b1 : decide (0 < t105.size) = true:=decide_eq_true (by omega)
    clear c6
    obtain rfl:=Option.some.inj H
    go_enter Tryz.func98,Tryz.ntmps98
    go_wp2_with (first | ((with_reducible refine gate_callee (f:=134) rfl ?_); refine goesL_ (some 10) rfl rfl Tryz.func134 (by kernel_rfl) rfl #[.string a0,.string a1] rfl (by (try simp only [List.map_toArray,List.map_cons,List.map_nil]); first | done | rfl | (simp only [List.length_drop,List.length_take]; rfl)) ?_; (with_reducible refine (strings_CutPrefix.calls a0 a1 t105 true _ A3.out).mono ?_); rintro e w' ⟨rfl,⟨nd,rfl⟩⟩; refine ⟨_,rfl,?_⟩; have p7 : 0 ≤ (0 : Int):=(by omega); have q7 : 0 < t105.size:=(by have : (0 : Int) < (t105.size : Int):=of_decide_eq_true (by first | (with_reducible assumption) | assumption); omega); have hx7 : ∀ h : 0 < t105.size,((t105[0]'h).toNat : Int) = bt t105 0:=bt_at t105 0; clear p7; have qi7 : (0 < (t105.size : Int)) = True:=eq_true (of_decide_eq_true (by first | (with_reducible assumption) | assumption)); replace q7:=eq_true q7))
    go_ret
    exact ⟨by first | rfl | (simp; done) | (simp [*]; done) | (simp [show ∀ l : List UInt8,(l != []) = !l.isEmpty from fun l => by cases l <;> rfl]; done),by repeat (first | exact Drawn0.refl _ | apply Drawn0.step)⟩
   ·rw [if_neg c6] at H
    exact absurd H (by simp)
 ·replace c4:=Bool.eq_false_iff.mpr c4
  subst c4
  have H1 : (some false) = some r:=by rw [if_neg (show ¬ (false = true) by decide)] at H; exact H
  clear H
  have H:=H1
  clear H1
  obtain rfl:=Option.some.inj H
  go_enter Tryz.func98,Tryz.ntmps98
  go_wp2_with (first | ((with_reducible refine gate_callee (f:=134) rfl ?_); refine goesL_ (some 10) rfl rfl Tryz.func134 (by kernel_rfl) rfl #[.string a0,.string a1] rfl (by (try simp only [List.map_toArray,List.map_cons,List.map_nil]); first | done | rfl | (simp only [List.length_drop,List.length_take]; rfl)) ?_; (with_reducible refine (strings_CutPrefix.calls a0 a1 t105 false _ A3.out).mono ?_); rintro e w' ⟨rfl,⟨nd,rfl⟩⟩; refine ⟨_,rfl,?_⟩))
  go_ret
  exact ⟨by first | rfl | (simp; done) | (simp [*]; done) | (simp [show ∀ l : List UInt8,(l != []) = !l.isEmpty from fun l => by cases l <;> rfl]; done),by repeat (first | exact Drawn0.refl _ | apply Drawn0.step)⟩

/-! ### path_Apart: function 68 -/
def path_Apart.f (a0 : ByteArray) (a1 : ByteArray) : Option (Bool):=(path_Within.f a0 a1).bind fun t107 => (if t107 = true then (some false) else ((path_Within.f a1 a0).bind fun t108 => (some (!t108))))
set_option maxHeartbeats 8000000 in
set_option maxRecDepth 100000 in
theorem path_Apart.calls (a0 : ByteArray) (a1 : ByteArray) (r : Bool) (w : World) (h : path_Apart.f a0 a1 = some r) :
  Calls Tryz.prog 68 #[.string a0,.string a1] w fun e w' => e = .returned (.bool r) ∧ Drawn0 w w':=by
 have H : ((path_Within.f a0 a1).bind fun t107 => (if t107 = true then (some false) else ((path_Within.f a1 a0).bind fun t108 => (some (!t108))))) = some r:=h
 clear h
 replace H:=Option.bind_eq_some_iff.mp H
 obtain ⟨t107,A30,H⟩:=H
 replace H : (if t107 = true then (some false) else ((path_Within.f a1 a0).bind fun t108 => (some (!t108)))) = some r:=H
 have A3:=Aside0.mk A30
 clear A30
 by_cases c4 : t107 = true
 ·subst c4
  have H1 : (some false) = some r:=by rw [if_pos rfl] at H; exact H
  clear H
  have H:=H1
  clear H1
  obtain rfl:=Option.some.inj H
  go_enter Tryz.func68,Tryz.ntmps68
  go_wp2_with (first | ((with_reducible refine gate_callee (f:=98) rfl ?_); refine goesL_ (some 7) rfl rfl Tryz.func98 (by kernel_rfl) rfl #[.string a0,.string a1] rfl (by (try simp only [List.map_toArray,List.map_cons,List.map_nil]); first | done | rfl | (simp only [List.length_drop,List.length_take]; rfl)) ?_; (with_reducible refine (path_Within.calls a0 a1 true _ A3.out).mono ?_); rintro e w' ⟨rfl,⟨nd,rfl⟩⟩; refine ⟨_,rfl,?_⟩))
  go_ret
  exact ⟨by first | rfl | (simp; done) | (simp [*]; done) | (simp [show ∀ l : List UInt8,(l != []) = !l.isEmpty from fun l => by cases l <;> rfl]; done),by repeat (first | exact Drawn0.refl _ | apply Drawn0.step)⟩
 ·replace c4:=Bool.eq_false_iff.mpr c4
  subst c4
  have H1 : ((path_Within.f a1 a0).bind fun t108 => (some (!t108))) = some r:=by rw [if_neg (show ¬ (false = true) by decide)] at H; exact H
  clear H
  have H:=H1
  clear H1
  replace H:=Option.bind_eq_some_iff.mp H
  obtain ⟨t108,A50,H⟩:=H
  replace H : (some (!t108)) = some r:=H
  have A5:=Aside0.mk A50
  clear A50
  obtain rfl:=Option.some.inj H
  go_enter Tryz.func68,Tryz.ntmps68
  go_wp2_with (first | ((with_reducible refine gate_callee (f:=98) rfl ?_); refine goesL_ (some 7) rfl rfl Tryz.func98 (by kernel_rfl) rfl #[.string a0,.string a1] rfl (by (try simp only [List.map_toArray,List.map_cons,List.map_nil]); first | done | rfl | (simp only [List.length_drop,List.length_take]; rfl)) ?_; (with_reducible refine (path_Within.calls a0 a1 false _ A3.out).mono ?_); rintro e w' ⟨rfl,⟨nd,rfl⟩⟩; refine ⟨_,rfl,?_⟩) | (go_at_call 98; (with_reducible refine (path_Within.calls a1 a0 t108 _ A5.out).mono ?_); rintro e w' ⟨rfl,⟨nd,rfl⟩⟩))
  go_ret
  exact ⟨by first | rfl | (simp; done) | (simp [*]; done) | (simp [show ∀ l : List UInt8,(l != []) = !l.isEmpty from fun l => by cases l <;> rfl]; done),by repeat (first | exact Drawn0.refl _ | apply Drawn0.step)⟩

-- NOT PRINTED: function 148 (slices_IndexFunc_string_string)

-- NOT PRINTED: function 114 (slices_ContainsFunc_string_string)

end Go.Proofs.YthhohbidjhcjeaaGreatDoor.Q
namespace Go.Proofs.YthhohbidjhcjeaaGreatDoor.Q
open Go.RowKit Go.Proofs.YthhohbidjhcjeaaGreatDoorW.PrintWords Go.Proofs.YthhohbidjhcjeaaGreatDoorW.PrintLast Go.Proofs.YthhohbidjhcjeaaGreatDoorW.PrintMore
attribute [local go_sem] max2_int min2_int max_two min_two max_three min_three max_four min_four   -- for this text's walks alone
set_option linter.unusedVariables false
set_option linter.unusedSimpArgs false

/-! ### counterpanelaw08_Great: function 22 -/
mutual
def counterpanelaw08_Great.j1 : Nat → Int → Int → ByteArray → ByteArray → ByteArray → Int → List ByteArray → List ByteArray → Option (Bool)
 | 0,_,_,_,_,_,_,_,_ => none
 | k + 1,x3,x189000,x189001,x189002,x189003,x189004,x189005,x189006 => counterpanelaw08_Great.l1 k x3 0 x189000 x189001 x189002 x189003 x189004 x189005 x189006
def counterpanelaw08_Great.l1 : Nat → Int → Int → Int → ByteArray → ByteArray → ByteArray → Int → List ByteArray → List ByteArray → Option (Bool)
 | 0,_,_,_,_,_,_,_,_,_ => none
 | k + 1,x3,x5,x189000,x189001,x189002,x189003,x189004,x189005,x189006 => if x5 < (x189006.length : Int) then (if x3 < 4000 then (if 0 ≤ x5 then (counterpanelaw08_Great.l1 k (wrap64 (x3 + (mn ((rdOf ByteArray.empty x189006 x5).size : Int) 4000))) (wrap64 (x5 + 1)) x189000 x189001 x189002 x189003 x189004 x189005 x189006) else (none)) else (some (decide (x3 ≥ 4000)))) else (some (decide (x3 ≥ 4000)))
def counterpanelaw08_Great.l0 : Nat → Int → Int → Int → ByteArray → ByteArray → ByteArray → Int → List ByteArray → List ByteArray → Option (Bool)
 | 0,_,_,_,_,_,_,_,_,_ => none
 | k + 1,x3,x4,x189000,x189001,x189002,x189003,x189004,x189005,x189006 => if x4 < (x189005.length : Int) then (if x3 < 4000 then (if 0 ≤ x4 then (counterpanelaw08_Great.l0 k (wrap64 (x3 + (mn ((rdOf ByteArray.empty x189005 x4).size : Int) 4000))) (wrap64 (x4 + 1)) x189000 x189001 x189002 x189003 x189004 x189005 x189006) else (none)) else (counterpanelaw08_Great.j1 k x3 x189000 x189001 x189002 x189003 x189004 x189005 x189006)) else (counterpanelaw08_Great.j1 k x3 x189000 x189001 x189002 x189003 x189004 x189005 x189006)
end
def counterpanelaw08_Great.f (k : Nat) (a0_0 : Int) (a0_1 : ByteArray) (a0_2 : ByteArray) (a0_3 : ByteArray) (a0_4 : Int) (l0_5 : List ByteArray) (l0_6 : List ByteArray) : Option (Bool):=counterpanelaw08_Great.l0 k (wrap64 ((wrap64 ((((mn (a0_1.size : Int) 4000) + (mn (a0_2.size : Int) 4000)) + (mn (a0_3.size : Int) 4000)) + (l0_5.length : Int))) + (l0_6.length : Int))) 0 a0_0 a0_1 a0_2 a0_3 a0_4 l0_5 l0_6
theorem counterpanelaw08_Great.mono_l : ∀ k,(∀ y0 y1 y2 y3 y4 y5 y6 y7,LeO (counterpanelaw08_Great.j1 k y0 y1 y2 y3 y4 y5 y6 y7) (counterpanelaw08_Great.j1 (k + 1) y0 y1 y2 y3 y4 y5 y6 y7)) ∧ (∀ y0 y1 y2 y3 y4 y5 y6 y7 y8,LeO (counterpanelaw08_Great.l1 k y0 y1 y2 y3 y4 y5 y6 y7 y8) (counterpanelaw08_Great.l1 (k + 1) y0 y1 y2 y3 y4 y5 y6 y7 y8)) ∧ (∀ y0 y1 y2 y3 y4 y5 y6 y7 y8,LeO (counterpanelaw08_Great.l0 k y0 y1 y2 y3 y4 y5 y6 y7 y8) (counterpanelaw08_Great.l0 (k + 1) y0 y1 y2 y3 y4 y5 y6 y7 y8))
 | 0 => ⟨fun _ _ _ _ _ _ _ _ r h => by simp [counterpanelaw08_Great.j1] at h,fun _ _ _ _ _ _ _ _ _ r h => by simp [counterpanelaw08_Great.l1] at h,fun _ _ _ _ _ _ _ _ _ r h => by simp [counterpanelaw08_Great.l0] at h⟩
 | k + 1 => by
  obtain ⟨ih0,ih1,ih2⟩:=counterpanelaw08_Great.mono_l k
  refine ⟨?_,?_,?_⟩
  ·intro y0 y1 y2 y3 y4 y5 y6 y7
   unfold counterpanelaw08_Great.j1
   repeat' first
   | (with_reducible exact ih0 _ _ _ _ _ _ _ _)
   | (with_reducible exact ih1 _ _ _ _ _ _ _ _ _)
   | (with_reducible exact ih2 _ _ _ _ _ _ _ _ _)
   | (with_reducible exact LeO.refl _)
   | (with_reducible exact LeO.none _)
   | (with_reducible refine LeO.ite ?_ ?_)
   | (with_reducible refine LeO.bind ?_ (fun _ => ?_))
   | exact ih0 _ _ _ _ _ _ _ _
   | exact ih1 _ _ _ _ _ _ _ _ _
   | exact ih2 _ _ _ _ _ _ _ _ _
   | exact LeO.none _
   | refine LeO.ite ?_ ?_
   | refine LeO.bind ?_ (fun _ => ?_)
  ·intro y0 y1 y2 y3 y4 y5 y6 y7 y8
   unfold counterpanelaw08_Great.l1
   repeat' first
   | (with_reducible exact ih0 _ _ _ _ _ _ _ _)
   | (with_reducible exact ih1 _ _ _ _ _ _ _ _ _)
   | (with_reducible exact ih2 _ _ _ _ _ _ _ _ _)
   | (with_reducible exact LeO.refl _)
   | (with_reducible exact LeO.none _)
   | (with_reducible refine LeO.ite ?_ ?_)
   | (with_reducible refine LeO.bind ?_ (fun _ => ?_))
   | exact ih0 _ _ _ _ _ _ _ _
   | exact ih1 _ _ _ _ _ _ _ _ _
   | exact ih2 _ _ _ _ _ _ _ _ _
   | exact LeO.none _
   | refine LeO.ite ?_ ?_
   | refine LeO.bind ?_ (fun _ => ?_)
  ·intro y0 y1 y2 y3 y4 y5 y6 y7 y8
   unfold counterpanelaw08_Great.l0
   repeat' first
   | (with_reducible exact ih0 _ _ _ _ _ _ _ _)
   | (with_reducible exact ih1 _ _ _ _ _ _ _ _ _)
   | (with_reducible exact ih2 _ _ _ _ _ _ _ _ _)
   | (with_reducible exact LeO.refl _)
   | (with_reducible exact LeO.none _)
   | (with_reducible refine LeO.ite ?_ ?_)
   | (with_reducible refine LeO.bind ?_ (fun _ => ?_))
   | exact ih0 _ _ _ _ _ _ _ _
   | exact ih1 _ _ _ _ _ _ _ _ _
   | exact ih2 _ _ _ _ _ _ _ _ _
   | exact LeO.none _
   | refine LeO.ite ?_ ?_
   | refine LeO.bind ?_ (fun _ => ?_)
theorem counterpanelaw08_Great.mono : ∀ a0 a1 a2 a3 a4 a5 a6 k,LeO (counterpanelaw08_Great.f k a0 a1 a2 a3 a4 a5 a6) (counterpanelaw08_Great.f (k + 1) a0 a1 a2 a3 a4 a5 a6):=by
 intro a0 a1 a2 a3 a4 a5 a6 k
 obtain ⟨ih0,ih1,ih2⟩:=counterpanelaw08_Great.mono_l k
 unfold counterpanelaw08_Great.f
 repeat' first
   | (with_reducible exact ih0 _ _ _ _ _ _ _ _)
   | (with_reducible exact ih1 _ _ _ _ _ _ _ _ _)
   | (with_reducible exact ih2 _ _ _ _ _ _ _ _ _)
   | (with_reducible exact LeO.refl _)
   | (with_reducible exact LeO.none _)
   | (with_reducible refine LeO.ite ?_ ?_)
   | (with_reducible refine LeO.bind ?_ (fun _ => ?_))
   | exact ih0 _ _ _ _ _ _ _ _
   | exact ih1 _ _ _ _ _ _ _ _ _
   | exact ih2 _ _ _ _ _ _ _ _ _
   | exact LeO.none _
   | refine LeO.ite ?_ ?_
   | refine LeO.bind ?_ (fun _ => ?_)
set_option maxHeartbeats 8000000 in
set_option maxRecDepth 100000 in
theorem counterpanelaw08_Great.calls (k : Nat) (a0_0 : Int) (a0_1 : ByteArray) (a0_2 : ByteArray) (a0_3 : ByteArray) (a0_4 : Int) (A0_5 : Option Addr) (c0_5 : Nat) (l0_5 : List ByteArray) (A0_6 : Option Addr) (c0_6 : Nat) (l0_6 : List ByteArray) (r : Bool) (w : World) (hr0_5 : Kd.C Kd.string w A0_5 l0_5.length l0_5) (hc0_5 : l0_5.length ≤ c0_5) (hr0_6 : Kd.C Kd.string w A0_6 l0_6.length l0_6) (hc0_6 : l0_6.length ≤ c0_6) (h : counterpanelaw08_Great.f k a0_0 a0_1 a0_2 a0_3 a0_4 l0_5 l0_6 = some r) :
  Calls Tryz.prog 22 #[.agg #[.int .i64 a0_0,.string a0_1,.string a0_2,.string a0_3,.int .i64 a0_4,.slice A0_5 l0_5.length c0_5,.slice A0_6 l0_6.length c0_6]] w fun e w' => e = .returned (.bool r) ∧ Below w.heap.size w w':=by
 have hu25:=Tryz.underlying25
 have HR0_5:=Aside0.mk hr0_5
 have HC0_5:=Aside0.mk hc0_5
 clear hr0_5 hc0_5
 have HR0_6:=Aside0.mk hr0_6
 have HC0_6:=Aside0.mk hc0_6
 clear hr0_6 hc0_6
 have HB:=Aside0.mk (Below.refl w.heap.size w)
 have H : (counterpanelaw08_Great.l0 k (wrap64 ((wrap64 ((((mn (a0_1.size : Int) 4000) + (mn (a0_2.size : Int) 4000)) + (mn (a0_3.size : Int) 4000)) + (l0_5.length : Int))) + (l0_6.length : Int))) 0 a0_0 a0_1 a0_2 a0_3 a0_4 l0_5 l0_6) = some r:=h
 clear h
 obtain ⟨ji2,hji2⟩ : ∃ j_ : Int,(mn (a0_1.size : Int) 4000) = j_:=⟨_,rfl⟩
 replace H : (counterpanelaw08_Great.l0 k (wrap64 ((wrap64 ((((ji2) + (mn (a0_2.size : Int) 4000)) + (mn (a0_3.size : Int) 4000)) + (l0_5.length : Int))) + (l0_6.length : Int))) 0 a0_0 a0_1 a0_2 a0_3 a0_4 l0_5 l0_6) = some r:=by first | (rw [hji2] at H; exact H) | (simp only [hji2] at H ⊢; exact H)
 (try (have hji2h : ji2 ≤ 4000:=by (rw [← hji2]; unfold mn; (repeat' split) <;> omega)))
 (try (have hji2g : ji2 ≤ 64:=by omega))
 (try (have hji2l : 0 ≤ ji2:=by (rw [← hji2]; unfold mn; (repeat' split) <;> omega)))
 (try (have hji2m : 0 ≤ ji2:=by omega))
 have hji2_ : (if 4000 < (a0_1.size : Int) then 4000 else (a0_1.size : Int)) = ji2:=hji2
 obtain ⟨ji3,hji3⟩ : ∃ j_ : Int,(mn (a0_2.size : Int) 4000) = j_:=⟨_,rfl⟩
 replace H : (counterpanelaw08_Great.l0 k (wrap64 ((wrap64 ((((ji2) + (ji3)) + (mn (a0_3.size : Int) 4000)) + (l0_5.length : Int))) + (l0_6.length : Int))) 0 a0_0 a0_1 a0_2 a0_3 a0_4 l0_5 l0_6) = some r:=by first | (rw [hji3] at H; exact H) | (simp only [hji3] at H ⊢; exact H)
 (try (have hji3h : ji3 ≤ 4000:=by (rw [← hji3]; unfold mn; (repeat' split) <;> omega)))
 (try (have hji3g : ji3 ≤ 64:=by omega))
 (try (have hji3l : 0 ≤ ji3:=by (rw [← hji3]; unfold mn; (repeat' split) <;> omega)))
 (try (have hji3m : 0 ≤ ji3:=by omega))
 have hji3_ : (if 4000 < (a0_2.size : Int) then 4000 else (a0_2.size : Int)) = ji3:=hji3
 obtain ⟨ji4,hji4⟩ : ∃ j_ : Int,(mn (a0_3.size : Int) 4000) = j_:=⟨_,rfl⟩
 replace H : (counterpanelaw08_Great.l0 k (wrap64 ((wrap64 ((((ji2) + (ji3)) + (ji4)) + (l0_5.length : Int))) + (l0_6.length : Int))) 0 a0_0 a0_1 a0_2 a0_3 a0_4 l0_5 l0_6) = some r:=by first | (rw [hji4] at H; exact H) | (simp only [hji4] at H ⊢; exact H)
 (try (have hji4h : ji4 ≤ 4000:=by (rw [← hji4]; unfold mn; (repeat' split) <;> omega)))
 (try (have hji4g : ji4 ≤ 64:=by omega))
 (try (have hji4l : 0 ≤ ji4:=by (rw [← hji4]; unfold mn; (repeat' split) <;> omega)))
 (try (have hji4m : 0 ≤ ji4:=by omega))
 have hji4_ : (if 4000 < (a0_3.size : Int) then 4000 else (a0_3.size : Int)) = ji4:=hji4
 have HC5:=Aside0.mk H
 clear H
 go_enter Tryz.func22,Tryz.ntmps22
 go_upto_block 0 with (first | ((with_reducible refine gate_dst (N:=1) rfl ?_); refine box_event ?hg (N:=1) ?hd (cs:=#[.int .i64 a0_0,.string a0_1,.string a0_2,.string a0_3,.int .i64 a0_4,.slice A0_5 l0_5.length c0_5,.slice A0_6 l0_6.length c0_6]) (t:=25) ?hr ?_; (case hd => rfl); (case hg => rfl); (case hr => first | (go_simp; done) | (go_simp; rfl)); intro gb188 hg w6 hbox hb; have n0_:=Aside0.mk (below_step (by repeat (first | (with_reducible first | exact HB.out | apply below_alloc | apply pw_below_drewN | apply below_drew1) | exact HB.out)) hb); have n1_:=Aside0.mk (hbox); have n2_:=Aside0.mk ((by rw [hg]; exact (below_size (by repeat (first | (with_reducible first | exact HB.out | apply below_alloc | apply pw_below_drewN | apply below_drew1) | exact HB.out))) : w.heap.size ≤ gb188)); have n3_:=Aside0.mk ((by rw [hg]; exact (below_size (by repeat (first | (with_reducible first | exact HB.out | apply below_alloc | apply pw_below_drewN | apply below_drew1) | exact HB.out))) : w.heap.size ≤ gb188)); clear HB; have HB:=n0_; have BK188:=n1_; have GW188:=n2_; have GE188:=n3_; clear n0_ n1_ n2_ n3_; clear hb hbox hg; have hcz7_0 : w6.cell? ⟨gb188,0,none⟩ = some (.int .i64 a0_0):=(blk_cell BK188.out 0).trans rfl; have hcz7_1 : w6.cell? ⟨gb188,1,none⟩ = some (.string a0_1):=(blk_cell BK188.out 1).trans rfl; have hcz7_2 : w6.cell? ⟨gb188,2,none⟩ = some (.string a0_2):=(blk_cell BK188.out 2).trans rfl; have hcz7_3 : w6.cell? ⟨gb188,3,none⟩ = some (.string a0_3):=(blk_cell BK188.out 3).trans rfl; have hcz7_4 : w6.cell? ⟨gb188,4,none⟩ = some (.int .i64 a0_4):=(blk_cell BK188.out 4).trans rfl; have hcz7_5 : w6.cell? ⟨gb188,5,none⟩ = some (.slice A0_5 l0_5.length c0_5):=(blk_cell BK188.out 5).trans rfl; have hcz7_6 : w6.cell? ⟨gb188,6,none⟩ = some (.slice A0_6 l0_6.length c0_6):=(blk_cell BK188.out 6).trans rfl; have hfz7_0:=blk_frozen BK188.out 0; have hfz7_1:=blk_frozen BK188.out 1; have hfz7_2:=blk_frozen BK188.out 2; have hfz7_3:=blk_frozen BK188.out 3; have hfz7_4:=blk_frozen BK188.out 4; have hfz7_5:=blk_frozen BK188.out 5; have hfz7_6:=blk_frozen BK188.out 6))
 (try simp only [Act.put,List.setIfInBounds_toArray,List.set_cons_zero,List.set_cons_succ])
 go_cut [3] (fun v3 wc => ∃ (kq : Nat) (x3_4 : Int),v3 = .int .i64 x3_4 ∧ Aside0 (counterpanelaw08_Great.j1 kq x3_4 a0_0 a0_1 a0_2 a0_3 a0_4 l0_5 l0_6 = some r) ∧ Aside0 (kq ≤ k) ∧ Aside0 (wc.heap[gb188]? = some (.cells #[.int .i64 a0_0,.string a0_1,.string a0_2,.string a0_3,.int .i64 a0_4,(.slice A0_5 l0_5.length c0_5),(.slice A0_6 l0_6.length c0_6)] 25 (0,0))) ∧ Aside0 (Below w.heap.size w wc))
 case first =>
  have H:=HC5.out
  clear HC5
  have H':=Aside0.mk H
  clear H
  go_wp2
  go_loopg [3,4] k (fun kq v3 v4 w' => ∃ (x3_1 : Int) (x4_1 : Int),v3 = .int .i64 x3_1 ∧ v4 = .int .i64 x4_1 ∧ Aside0 (counterpanelaw08_Great.l0 kq x3_1 x4_1 a0_0 a0_1 a0_2 a0_3 a0_4 l0_5 l0_6 = some r) ∧ Aside0 (kq ≤ k) ∧ Aside0 (w'.heap[gb188]? = some (.cells #[.int .i64 a0_0,.string a0_1,.string a0_2,.string a0_3,.int .i64 a0_4,(.slice A0_5 l0_5.length c0_5),(.slice A0_6 l0_6.length c0_6)] 25 (0,0))) ∧ Aside0 (Below w.heap.size w w'))
  case atStart => exact ⟨(wrap64 ((wrap64 ((((ji2) + (ji3)) + (ji4)) + (l0_5.length : Int))) + (l0_6.length : Int))),(0),(by first | rfl | (simp; done) | (simp only [← hji2,← hji3,← hji4] <;> (first | rfl | simp)) | (simp [*]; done)),(by first | rfl | (simp; done) | (simp [*]; done)),H',⟨Nat.le_refl _⟩,⟨by (with_reducible repeat (first | refine blk_drewN ?_ _ | refine blk_drew ?_ | refine blk_alloc ?_ _)); exact BK188.out⟩,⟨by repeat (first | (with_reducible first | exact HB.out | apply below_alloc | apply pw_below_drewN | apply below_drew1 | refine below_set ?_ GE188.out) | exact HB.out)⟩⟩
  case round =>
   clear H'
   try clear c2
   try clear p2
   try clear p6
   try clear hcz7_0
   try clear hcz7_1
   try clear hcz7_2
   try clear hcz7_3
   try clear hcz7_4
   try clear hcz7_5
   try clear hcz7_6
   try clear hfz7_0
   try clear hfz7_1
   try clear hfz7_2
   try clear hfz7_3
   try clear hfz7_4
   try clear hfz7_5
   try clear hfz7_6
   obtain ⟨x3_1,x4_1,rfl,rfl,HA,HK1,BK188,HB⟩:=hrel
   cases gk with
   | zero => exact absurd HA.out (by simp [counterpanelaw08_Great.l0])
   | succ k1 =>
    have H:=HA.out
    clear HA
    simp only [counterpanelaw08_Great.l0] at H
    by_cases c8 : x4_1 < (l0_5.length : Int)
    ·rw [if_pos c8] at H
     have c8b0 : decide (x4_1 < (l0_5.length : Int)) = true:=decide_eq_true c8
     clear c8
     (first | rw [c8b0] | (simp only [i64_w,i32_w]; rw [c8b0]) | skip)
     by_cases c9 : x3_1 < 4000
     ·rw [if_pos c9] at H
      have c9b0 : decide (x3_1 < 4000) = true:=decide_eq_true c9
      clear c9
      by_cases c10 : 0 ≤ x4_1
      ·rw [if_pos c10] at H
       have c10b0 : decide (0 ≤ x4_1) = true:=decide_eq_true c10
       clear c10
       obtain ⟨ji11,hji11⟩ : ∃ j_ : Int,(mn ((rdOf ByteArray.empty l0_5 x4_1).size : Int) 4000) = j_:=⟨_,rfl⟩
       replace H : (counterpanelaw08_Great.l0 k1 (wrap64 (x3_1 + (ji11))) (wrap64 (x4_1 + 1)) a0_0 a0_1 a0_2 a0_3 a0_4 l0_5 l0_6) = some r:=by first | (rw [hji11] at H; exact H) | (simp only [hji11] at H ⊢; exact H)
       have hji11_ : (if 4000 < ((rdOf ByteArray.empty l0_5 x4_1).size : Int) then 4000 else ((rdOf ByteArray.empty l0_5 x4_1).size : Int)) = ji11:=hji11
       have H':=Aside0.mk H
       clear H
       have hcz12_0 : wr.cell? ⟨gb188,0,none⟩ = some (.int .i64 a0_0):=(blk_cell BK188.out 0).trans rfl
       have hcz12_1 : wr.cell? ⟨gb188,1,none⟩ = some (.string a0_1):=(blk_cell BK188.out 1).trans rfl
       have hcz12_2 : wr.cell? ⟨gb188,2,none⟩ = some (.string a0_2):=(blk_cell BK188.out 2).trans rfl
       have hcz12_3 : wr.cell? ⟨gb188,3,none⟩ = some (.string a0_3):=(blk_cell BK188.out 3).trans rfl
       have hcz12_4 : wr.cell? ⟨gb188,4,none⟩ = some (.int .i64 a0_4):=(blk_cell BK188.out 4).trans rfl
       have hcz12_5 : wr.cell? ⟨gb188,5,none⟩ = some (.slice A0_5 l0_5.length c0_5):=(blk_cell BK188.out 5).trans rfl
       have hcz12_6 : wr.cell? ⟨gb188,6,none⟩ = some (.slice A0_6 l0_6.length c0_6):=(blk_cell BK188.out 6).trans rfl
       have hfz12_0:=blk_frozen BK188.out 0
       have hfz12_1:=blk_frozen BK188.out 1
       have hfz12_2:=blk_frozen BK188.out 2
       have hfz12_3:=blk_frozen BK188.out 3
       have hfz12_4:=blk_frozen BK188.out 4
       have hfz12_5:=blk_frozen BK188.out 5
       have hfz12_6:=blk_frozen BK188.out 6
       have p189 : 0 ≤ (x4_1 : Int):=of_decide_eq_true (by first | (with_reducible assumption) | assumption)
       have q189 : x4_1 < (l0_5.length : Int):=of_decide_eq_true (by first | (with_reducible assumption) | assumption)
       obtain ⟨ad189,e189,hx189_0⟩:=Kd.at_string HR0_5.out x4_1 p189 q189
       cases e189
       replace hx189_0:=(HB.out.cell (World.block_lt_of_cell? w _ hx189_0)).trans hx189_0
       replace p189:=eq_true p189
       replace q189:=eq_true q189
       go_wp2
       go_roundg k1
       case measure => have:=HK1.out; omega
       case rel => exact ⟨(wrap64 (x3_1 + (ji11))),(wrap64 (x4_1 + 1)),(by first | rfl | (simp; done) | (simp only [← hji11] <;> (first | rfl | simp)) | (simp [*]; done)),(by first | rfl | (simp; done) | (simp [*]; done)),H',⟨by have:=HK1.out; omega⟩,⟨by (with_reducible repeat (first | refine blk_drewN ?_ _ | refine blk_drew ?_ | refine blk_alloc ?_ _)); exact BK188.out⟩,⟨by repeat (first | (with_reducible first | exact HB.out | apply below_alloc | apply pw_below_drewN | apply below_drew1 | refine below_set ?_ GE188.out) | exact HB.out)⟩⟩
      ·rw [if_neg c10] at H
       exact absurd H (by simp)
     ·rw [if_neg c9] at H
      have c9b0 : decide (x3_1 < 4000) = false:=decide_eq_false c9
      clear c9
      have H':=Aside0.mk H
      clear H
      have hcz13_0 : wr.cell? ⟨gb188,0,none⟩ = some (.int .i64 a0_0):=(blk_cell BK188.out 0).trans rfl
      have hcz13_1 : wr.cell? ⟨gb188,1,none⟩ = some (.string a0_1):=(blk_cell BK188.out 1).trans rfl
      have hcz13_2 : wr.cell? ⟨gb188,2,none⟩ = some (.string a0_2):=(blk_cell BK188.out 2).trans rfl
      have hcz13_3 : wr.cell? ⟨gb188,3,none⟩ = some (.string a0_3):=(blk_cell BK188.out 3).trans rfl
      have hcz13_4 : wr.cell? ⟨gb188,4,none⟩ = some (.int .i64 a0_4):=(blk_cell BK188.out 4).trans rfl
      have hcz13_5 : wr.cell? ⟨gb188,5,none⟩ = some (.slice A0_5 l0_5.length c0_5):=(blk_cell BK188.out 5).trans rfl
      have hcz13_6 : wr.cell? ⟨gb188,6,none⟩ = some (.slice A0_6 l0_6.length c0_6):=(blk_cell BK188.out 6).trans rfl
      have hfz13_0:=blk_frozen BK188.out 0
      have hfz13_1:=blk_frozen BK188.out 1
      have hfz13_2:=blk_frozen BK188.out 2
      have hfz13_3:=blk_frozen BK188.out 3
      have hfz13_4:=blk_frozen BK188.out 4
      have hfz13_5:=blk_frozen BK188.out 5
      have hfz13_6:=blk_frozen BK188.out 6
      go_wp2
      go_meet
      case rel => exact ⟨_,(x3_1),(by first | rfl | (simp; done) | (simp [*]; done)),H',⟨by have:=HK1.out; first | omega | exact Nat.le_refl _⟩,⟨by (with_reducible repeat (first | refine blk_drewN ?_ _ | refine blk_drew ?_ | refine blk_alloc ?_ _)); exact BK188.out⟩,⟨by repeat (first | (with_reducible first | exact HB.out | apply below_alloc | apply pw_below_drewN | apply below_drew1 | refine below_set ?_ GE188.out) | exact HB.out)⟩⟩
    ·rw [if_neg c8] at H
     have c8b0 : decide (x4_1 < (l0_5.length : Int)) = false:=decide_eq_false c8
     clear c8
     (first | rw [c8b0] | (simp only [i64_w,i32_w]; rw [c8b0]) | skip)
     have H':=Aside0.mk H
     clear H
     have hcz14_0 : wr.cell? ⟨gb188,0,none⟩ = some (.int .i64 a0_0):=(blk_cell BK188.out 0).trans rfl
     have hcz14_1 : wr.cell? ⟨gb188,1,none⟩ = some (.string a0_1):=(blk_cell BK188.out 1).trans rfl
     have hcz14_2 : wr.cell? ⟨gb188,2,none⟩ = some (.string a0_2):=(blk_cell BK188.out 2).trans rfl
     have hcz14_3 : wr.cell? ⟨gb188,3,none⟩ = some (.string a0_3):=(blk_cell BK188.out 3).trans rfl
     have hcz14_4 : wr.cell? ⟨gb188,4,none⟩ = some (.int .i64 a0_4):=(blk_cell BK188.out 4).trans rfl
     have hcz14_5 : wr.cell? ⟨gb188,5,none⟩ = some (.slice A0_5 l0_5.length c0_5):=(blk_cell BK188.out 5).trans rfl
     have hcz14_6 : wr.cell? ⟨gb188,6,none⟩ = some (.slice A0_6 l0_6.length c0_6):=(blk_cell BK188.out 6).trans rfl
     have hfz14_0:=blk_frozen BK188.out 0
     have hfz14_1:=blk_frozen BK188.out 1
     have hfz14_2:=blk_frozen BK188.out 2
     have hfz14_3:=blk_frozen BK188.out 3
     have hfz14_4:=blk_frozen BK188.out 4
     have hfz14_5:=blk_frozen BK188.out 5
     have hfz14_6:=blk_frozen BK188.out 6
     go_wp2
     go_meet
     case rel => exact ⟨_,(x3_1),(by first | rfl | (simp; done) | (simp [*]; done)),H',⟨by have:=HK1.out; first | omega | exact Nat.le_refl _⟩,⟨by (with_reducible repeat (first | refine blk_drewN ?_ _ | refine blk_drew ?_ | refine blk_alloc ?_ _)); exact BK188.out⟩,⟨by repeat (first | (with_reducible first | exact HB.out | apply below_alloc | apply pw_below_drewN | apply below_drew1 | refine below_set ?_ GE188.out) | exact HB.out)⟩⟩
 case rest =>
  clear HC5
  try clear c1
  try clear p1
  try clear q1
  try clear hx1
  try clear c2
  try clear p2
  try clear p6
  try clear c8
  try clear c8b0
  try clear c9
  try clear c9b0
  try clear c10
  try clear c10b0
  try clear hcz12_0
  try clear hcz12_1
  try clear hcz12_2
  try clear hcz12_3
  try clear hcz12_4
  try clear hcz12_5
  try clear hcz12_6
  try clear hcz13_0
  try clear hcz13_1
  try clear hcz13_2
  try clear hcz13_3
  try clear hcz13_4
  try clear hcz13_5
  try clear hcz13_6
  try clear hcz14_0
  try clear hcz14_1
  try clear hcz14_2
  try clear hcz14_3
  try clear hcz14_4
  try clear hcz14_5
  try clear hcz14_6
  try clear hcz7_0
  try clear hcz7_1
  try clear hcz7_2
  try clear hcz7_3
  try clear hcz7_4
  try clear hcz7_5
  try clear hcz7_6
  try clear hfz12_0
  try clear hfz12_1
  try clear hfz12_2
  try clear hfz12_3
  try clear hfz12_4
  try clear hfz12_5
  try clear hfz12_6
  try clear hfz13_0
  try clear hfz13_1
  try clear hfz13_2
  try clear hfz13_3
  try clear hfz13_4
  try clear hfz13_5
  try clear hfz13_6
  try clear hfz14_0
  try clear hfz14_1
  try clear hfz14_2
  try clear hfz14_3
  try clear hfz14_4
  try clear hfz14_5
  try clear hfz14_6
  try clear hfz7_0
  try clear hfz7_1
  try clear hfz7_2
  try clear hfz7_3
  try clear hfz7_4
  try clear hfz7_5
  try clear hfz7_6
  try clear hx189_0
  try clear p189
  try clear p2
  try clear p6
  try clear q189
  obtain ⟨kq,x3_4,rfl,HA,HJ4,BK188,HB⟩:=hcut
  cases kq with
  | zero => exact absurd HA.out (by simp [counterpanelaw08_Great.j1])
  | succ kj4 =>
   have H:=HA.out
   clear HA
   simp only [counterpanelaw08_Great.j1] at H
   have H':=Aside0.mk H
   clear H
   go_wp2
   go_loopg [3,5] kj4 (fun kq v3 v5 w' => ∃ (x3_2 : Int) (x5_2 : Int),v3 = .int .i64 x3_2 ∧ v5 = .int .i64 x5_2 ∧ Aside0 (counterpanelaw08_Great.l1 kq x3_2 x5_2 a0_0 a0_1 a0_2 a0_3 a0_4 l0_5 l0_6 = some r) ∧ Aside0 (kq ≤ kj4) ∧ Aside0 (w'.heap[gb188]? = some (.cells #[.int .i64 a0_0,.string a0_1,.string a0_2,.string a0_3,.int .i64 a0_4,(.slice A0_5 l0_5.length c0_5),(.slice A0_6 l0_6.length c0_6)] 25 (0,0))) ∧ Aside0 (Below w.heap.size w w'))
   case atStart => exact ⟨(x3_4),(0),(by first | rfl | (simp; done) | (simp [*]; done)),(by first | rfl | (simp; done) | (simp [*]; done)),H',⟨Nat.le_refl _⟩,⟨by (with_reducible repeat (first | refine blk_drewN ?_ _ | refine blk_drew ?_ | refine blk_alloc ?_ _)); exact BK188.out⟩,⟨by repeat (first | (with_reducible first | exact HB.out | apply below_alloc | apply pw_below_drewN | apply below_drew1 | refine below_set ?_ GE188.out) | exact HB.out)⟩⟩
   case round =>
    clear H'
    try clear c1
    try clear p1
    try clear q1
    try clear hx1
    try clear c2
    try clear p2
    try clear p6
    try clear c8
    try clear c8b0
    try clear c9
    try clear c9b0
    try clear c10
    try clear c10b0
    try clear hcz12_0
    try clear hcz12_1
    try clear hcz12_2
    try clear hcz12_3
    try clear hcz12_4
    try clear hcz12_5
    try clear hcz12_6
    try clear hcz13_0
    try clear hcz13_1
    try clear hcz13_2
    try clear hcz13_3
    try clear hcz13_4
    try clear hcz13_5
    try clear hcz13_6
    try clear hcz14_0
    try clear hcz14_1
    try clear hcz14_2
    try clear hcz14_3
    try clear hcz14_4
    try clear hcz14_5
    try clear hcz14_6
    try clear hcz7_0
    try clear hcz7_1
    try clear hcz7_2
    try clear hcz7_3
    try clear hcz7_4
    try clear hcz7_5
    try clear hcz7_6
    try clear hfz12_0
    try clear hfz12_1
    try clear hfz12_2
    try clear hfz12_3
    try clear hfz12_4
    try clear hfz12_5
    try clear hfz12_6
    try clear hfz13_0
    try clear hfz13_1
    try clear hfz13_2
    try clear hfz13_3
    try clear hfz13_4
    try clear hfz13_5
    try clear hfz13_6
    try clear hfz14_0
    try clear hfz14_1
    try clear hfz14_2
    try clear hfz14_3
    try clear hfz14_4
    try clear hfz14_5
    try clear hfz14_6
    try clear hfz7_0
    try clear hfz7_1
    try clear hfz7_2
    try clear hfz7_3
    try clear hfz7_4
    try clear hfz7_5
    try clear hfz7_6
    try clear hx189_0
    try clear p1
    try clear p189
    try clear p2
    try clear p6
    try clear q1
    try clear q189
    obtain ⟨x3_2,x5_2,rfl,rfl,HA,HK2,BK188,HB⟩:=hrel
    cases gk with
    | zero => exact absurd HA.out (by simp [counterpanelaw08_Great.l1])
    | succ k2 =>
     have H:=HA.out
     clear HA
     simp only [counterpanelaw08_Great.l1] at H
     by_cases c15 : x5_2 < (l0_6.length : Int)
     ·rw [if_pos c15] at H
      have c15b0 : decide (x5_2 < (l0_6.length : Int)) = true:=decide_eq_true c15
      clear c15
      by_cases c16 : x3_2 < 4000
      ·rw [if_pos c16] at H
       have c16b0 : decide (x3_2 < 4000) = true:=decide_eq_true c16
       clear c16
       by_cases c17 : 0 ≤ x5_2
       ·rw [if_pos c17] at H
        have c17b0 : decide (0 ≤ x5_2) = true:=decide_eq_true c17
        clear c17
        obtain ⟨ji18,hji18⟩ : ∃ j_ : Int,(mn ((rdOf ByteArray.empty l0_6 x5_2).size : Int) 4000) = j_:=⟨_,rfl⟩
        replace H : (counterpanelaw08_Great.l1 k2 (wrap64 (x3_2 + (ji18))) (wrap64 (x5_2 + 1)) a0_0 a0_1 a0_2 a0_3 a0_4 l0_5 l0_6) = some r:=by first | (rw [hji18] at H; exact H) | (simp only [hji18] at H ⊢; exact H)
        have hji18_ : (if 4000 < ((rdOf ByteArray.empty l0_6 x5_2).size : Int) then 4000 else ((rdOf ByteArray.empty l0_6 x5_2).size : Int)) = ji18:=hji18
        have H':=Aside0.mk H
        clear H
        have hcz19_0 : wr.cell? ⟨gb188,0,none⟩ = some (.int .i64 a0_0):=(blk_cell BK188.out 0).trans rfl
        have hcz19_1 : wr.cell? ⟨gb188,1,none⟩ = some (.string a0_1):=(blk_cell BK188.out 1).trans rfl
        have hcz19_2 : wr.cell? ⟨gb188,2,none⟩ = some (.string a0_2):=(blk_cell BK188.out 2).trans rfl
        have hcz19_3 : wr.cell? ⟨gb188,3,none⟩ = some (.string a0_3):=(blk_cell BK188.out 3).trans rfl
        have hcz19_4 : wr.cell? ⟨gb188,4,none⟩ = some (.int .i64 a0_4):=(blk_cell BK188.out 4).trans rfl
        have hcz19_5 : wr.cell? ⟨gb188,5,none⟩ = some (.slice A0_5 l0_5.length c0_5):=(blk_cell BK188.out 5).trans rfl
        have hcz19_6 : wr.cell? ⟨gb188,6,none⟩ = some (.slice A0_6 l0_6.length c0_6):=(blk_cell BK188.out 6).trans rfl
        have hfz19_0:=blk_frozen BK188.out 0
        have hfz19_1:=blk_frozen BK188.out 1
        have hfz19_2:=blk_frozen BK188.out 2
        have hfz19_3:=blk_frozen BK188.out 3
        have hfz19_4:=blk_frozen BK188.out 4
        have hfz19_5:=blk_frozen BK188.out 5
        have hfz19_6:=blk_frozen BK188.out 6
        have p190 : 0 ≤ (x5_2 : Int):=of_decide_eq_true (by first | (with_reducible assumption) | assumption)
        have q190 : x5_2 < (l0_6.length : Int):=of_decide_eq_true (by first | (with_reducible assumption) | assumption)
        obtain ⟨ad190,e190,hx190_0⟩:=Kd.at_string HR0_6.out x5_2 p190 q190
        cases e190
        replace hx190_0:=(HB.out.cell (World.block_lt_of_cell? w _ hx190_0)).trans hx190_0
        replace p190:=eq_true p190
        replace q190:=eq_true q190
        go_wp2
        go_roundg k2
        case measure => have:=HJ4.out; have:=HK2.out; omega
        case rel => exact ⟨(wrap64 (x3_2 + (ji18))),(wrap64 (x5_2 + 1)),(by first | rfl | (simp; done) | (simp only [← hji18] <;> (first | rfl | simp)) | (simp [*]; done)),(by first | rfl | (simp; done) | (simp [*]; done)),H',⟨by have:=HJ4.out; have:=HK2.out; omega⟩,⟨by (with_reducible repeat (first | refine blk_drewN ?_ _ | refine blk_drew ?_ | refine blk_alloc ?_ _)); exact BK188.out⟩,⟨by repeat (first | (with_reducible first | exact HB.out | apply below_alloc | apply pw_below_drewN | apply below_drew1 | refine below_set ?_ GE188.out) | exact HB.out)⟩⟩
       ·rw [if_neg c17] at H
        exact absurd H (by simp)
      ·rw [if_neg c16] at H
       have c16b0 : decide (x3_2 < 4000) = false:=decide_eq_false c16
       clear c16
       obtain rfl:=Option.some.inj H
       have hcz20_0 : wr.cell? ⟨gb188,0,none⟩ = some (.int .i64 a0_0):=(blk_cell BK188.out 0).trans rfl
       have hcz20_1 : wr.cell? ⟨gb188,1,none⟩ = some (.string a0_1):=(blk_cell BK188.out 1).trans rfl
       have hcz20_2 : wr.cell? ⟨gb188,2,none⟩ = some (.string a0_2):=(blk_cell BK188.out 2).trans rfl
       have hcz20_3 : wr.cell? ⟨gb188,3,none⟩ = some (.string a0_3):=(blk_cell BK188.out 3).trans rfl
       have hcz20_4 : wr.cell? ⟨gb188,4,none⟩ = some (.int .i64 a0_4):=(blk_cell BK188.out 4).trans rfl
       have hcz20_5 : wr.cell? ⟨gb188,5,none⟩ = some (.slice A0_5 l0_5.length c0_5):=(blk_cell BK188.out 5).trans rfl
       have hcz20_6 : wr.cell? ⟨gb188,6,none⟩ = some (.slice A0_6 l0_6.length c0_6):=(blk_cell BK188.out 6).trans rfl
       have hfz20_0:=blk_frozen BK188.out 0
       have hfz20_1:=blk_frozen BK188.out 1
       have hfz20_2:=blk_frozen BK188.out 2
       have hfz20_3:=blk_frozen BK188.out 3
       have hfz20_4:=blk_frozen BK188.out 4
       have hfz20_5:=blk_frozen BK188.out 5
       have hfz20_6:=blk_frozen BK188.out 6
       go_wp2
       go_ret
       exact ⟨by first | rfl | (simp [errW_none,errW_some] <;> rfl) | (simp only [← hji2,← hji3,← hji4]; first | rfl | (simp [errW_none,errW_some] <;> rfl)) | (simp [*,errW_none,errW_some] <;> rfl),by repeat (first | (with_reducible first | exact HB.out | apply below_alloc | apply pw_below_drewN | apply below_drew1 | refine below_set ?_ GE188.out) | exact HB.out)⟩
     ·rw [if_neg c15] at H
      have c15b0 : decide (x5_2 < (l0_6.length : Int)) = false:=decide_eq_false c15
      clear c15
      obtain rfl:=Option.some.inj H
      have hcz21_0 : wr.cell? ⟨gb188,0,none⟩ = some (.int .i64 a0_0):=(blk_cell BK188.out 0).trans rfl
      have hcz21_1 : wr.cell? ⟨gb188,1,none⟩ = some (.string a0_1):=(blk_cell BK188.out 1).trans rfl
      have hcz21_2 : wr.cell? ⟨gb188,2,none⟩ = some (.string a0_2):=(blk_cell BK188.out 2).trans rfl
      have hcz21_3 : wr.cell? ⟨gb188,3,none⟩ = some (.string a0_3):=(blk_cell BK188.out 3).trans rfl
      have hcz21_4 : wr.cell? ⟨gb188,4,none⟩ = some (.int .i64 a0_4):=(blk_cell BK188.out 4).trans rfl
      have hcz21_5 : wr.cell? ⟨gb188,5,none⟩ = some (.slice A0_5 l0_5.length c0_5):=(blk_cell BK188.out 5).trans rfl
      have hcz21_6 : wr.cell? ⟨gb188,6,none⟩ = some (.slice A0_6 l0_6.length c0_6):=(blk_cell BK188.out 6).trans rfl
      have hfz21_0:=blk_frozen BK188.out 0
      have hfz21_1:=blk_frozen BK188.out 1
      have hfz21_2:=blk_frozen BK188.out 2
      have hfz21_3:=blk_frozen BK188.out 3
      have hfz21_4:=blk_frozen BK188.out 4
      have hfz21_5:=blk_frozen BK188.out 5
      have hfz21_6:=blk_frozen BK188.out 6
      go_wp2
      go_ret
      exact ⟨by first | rfl | (simp [errW_none,errW_some] <;> rfl) | (simp only [← hji2,← hji3,← hji4]; first | rfl | (simp [errW_none,errW_some] <;> rfl)) | (simp [*,errW_none,errW_some] <;> rfl),by repeat (first | (with_reducible first | exact HB.out | apply below_alloc | apply pw_below_drewN | apply below_drew1 | refine below_set ?_ GE188.out) | exact HB.out)⟩

/-! ### counterpaneref04_Within: function 74 -/
def counterpaneref04_Within.f (a0 : ByteArray) (a1 : ByteArray) : Option (Bool):=if a0.toList = a1.toList then (some true) else (if (a0.size : Int) > (a1.size : Int) then (if 0 ≤ (a1.size : Int) then (if (a1.size : Int) ≤ (a0.size : Int) then (if (a0.extract 0 ((a1.size : Int) : Int).toNat).toList = a1.toList then (if (a1.size : Int) < (a0.size : Int) then (some ((bt a0 (a1.size : Int)) == 47)) else (none)) else (some false)) else (none)) else (none)) else (some false))
set_option maxHeartbeats 8000000 in
set_option maxRecDepth 100000 in
theorem counterpaneref04_Within.calls (a0 : ByteArray) (a1 : ByteArray) (r : Bool) (w : World) (h : counterpaneref04_Within.f a0 a1 = some r) :
  Calls Tryz.prog 74 #[.string a0,.string a1] w fun e w' => e = .returned (.bool r) ∧ Drawn0 w w':=by
 have H : (if a0.toList = a1.toList then (some true) else (if (a0.size : Int) > (a1.size : Int) then (if 0 ≤ (a1.size : Int) then (if (a1.size : Int) ≤ (a0.size : Int) then (if (a0.extract 0 ((a1.size : Int) : Int).toNat).toList = a1.toList then (if (a1.size : Int) < (a0.size : Int) then (some ((bt a0 (a1.size : Int)) == 47)) else (none)) else (some false)) else (none)) else (none)) else (some false))) = some r:=h
 clear h
 by_cases c3 : a0.toList = a1.toList
 ·rw [if_pos c3] at H
  have c3b0 : (a0.toList == a1.toList) = true:=beq_iff_eq.mpr c3
  have c3b1 : (a0.toList != a1.toList) = false:=bne_eq_false_iff_eq.mpr c3
  clear c3
  obtain rfl:=Option.some.inj H
  (try simp only [Int.toNat_natCast] at *)
  go_enter Tryz.func74,Tryz.ntmps74
  go_wp2
  go_ret
  exact ⟨by first | rfl | (simp; done) | (simp [*]; done) | (simp_all [bt]; done) | (simp [show ∀ l : List UInt8,(l != []) = !l.isEmpty from fun l => by cases l <;> rfl]; done),by repeat (first | exact Drawn0.refl _ | apply Drawn0.step)⟩
 ·rw [if_neg c3] at H
  have c3b0 : (a0.toList == a1.toList) = false:=beq_eq_false_iff_ne.mpr c3
  have c3b1 : (a0.toList != a1.toList) = true:=bne_iff_ne.mpr c3
  by_cases c4 : (a0.size : Int) > (a1.size : Int)
  ·rw [if_pos c4] at H
   have c4b0 : decide ((a1.size : Int) < (a0.size : Int)) = true:=decide_eq_true c4
   have c4b1 : decide (a1.size < a0.size) = true:=decide_eq_true (Int.ofNat_lt.mp c4)
   clear c4
   by_cases c5 : 0 ≤ (a1.size : Int)
   ·rw [if_pos c5] at H
    have c5b0:=eq_true c5
    have c5b1 : decide (0 ≤ (a1.size : Int)) = true:=decide_eq_true c5
    clear c5
    by_cases c6 : (a1.size : Int) ≤ (a0.size : Int)
    ·rw [if_pos c6] at H
     have c6b0:=eq_true c6
     have c6b1 : decide ((a1.size : Int) ≤ (a0.size : Int)) = true:=decide_eq_true c6
     clear c6
     by_cases c7 : (a0.extract 0 ((a1.size : Int) : Int).toNat).toList = a1.toList
     ·rw [if_pos c7] at H
      have c7b0 : ((a0.extract 0 ((a1.size : Int) : Int).toNat).toList == a1.toList) = true:=beq_iff_eq.mpr c7
      have c7b1 : ((a0.extract 0 ((a1.size : Int) : Int).toNat).toList != a1.toList) = false:=bne_eq_false_iff_eq.mpr c7
      clear c7
      by_cases c8 : (a1.size : Int) < (a0.size : Int)
      ·rw [if_pos c8] at H
       have c8b0 : decide ((a1.size : Int) < (a0.size : Int)) = true:=decide_eq_true c8
       have c8b1 : decide (a1.size < a0.size) = true:=decide_eq_true (Int.ofNat_lt.mp c8)
       clear c8
       obtain rfl:=Option.some.inj H
       have p9 : 0 ≤ ((a1.size : Int) : Int):=of_decide_eq_true (by first | (with_reducible assumption) | assumption)
       have q9 : (a1.size : Int) < (a0.size : Int):=of_decide_eq_true (by first | (with_reducible assumption) | assumption)
       have hx9:=bt_at a0 (a1.size : Int)
       replace p9:=eq_true p9
       replace q9:=eq_true q9
       (try simp only [Int.toNat_natCast] at *)
       go_enter Tryz.func74,Tryz.ntmps74
       go_wp2
       go_ret
       exact ⟨by first | rfl | (simp; done) | (simp [*]; done) | (simp_all [bt]; done) | (simp [show ∀ l : List UInt8,(l != []) = !l.isEmpty from fun l => by cases l <;> rfl]; done),by repeat (first | exact Drawn0.refl _ | apply Drawn0.step)⟩
      ·rw [if_neg c8] at H
       exact absurd H (by simp)
     ·rw [if_neg c7] at H
      have c7b0 : ((a0.extract 0 ((a1.size : Int) : Int).toNat).toList == a1.toList) = false:=beq_eq_false_iff_ne.mpr c7
      have c7b1 : ((a0.extract 0 ((a1.size : Int) : Int).toNat).toList != a1.toList) = true:=bne_iff_ne.mpr c7
      obtain rfl:=Option.some.inj H
      (try simp only [Int.toNat_natCast] at *)
      go_enter Tryz.func74,Tryz.ntmps74
      go_wp2
      go_ret
      exact ⟨by first | rfl | (simp; done) | (simp [*]; done) | (simp_all [bt]; done) | (simp [show ∀ l : List UInt8,(l != []) = !l.isEmpty from fun l => by cases l <;> rfl]; done),by repeat (first | exact Drawn0.refl _ | apply Drawn0.step)⟩
    ·rw [if_neg c6] at H
     exact absurd H (by simp)
   ·rw [if_neg c5] at H
    exact absurd H (by simp)
  ·rw [if_neg c4] at H
   have c4b0 : decide ((a1.size : Int) < (a0.size : Int)) = false:=decide_eq_false c4
   have c4b1 : decide (a1.size < a0.size) = false:=decide_eq_false (fun h => c4 (Int.ofNat_lt.mpr h))
   clear c4
   obtain rfl:=Option.some.inj H
   (try simp only [Int.toNat_natCast] at *)
   go_enter Tryz.func74,Tryz.ntmps74
   go_wp2
   go_ret
   exact ⟨by first | rfl | (simp; done) | (simp [*]; done) | (simp_all [bt]; done) | (simp [show ∀ l : List UInt8,(l != []) = !l.isEmpty from fun l => by cases l <;> rfl]; done),by repeat (first | exact Drawn0.refl _ | apply Drawn0.step)⟩

/-! ### counterpaneref04_Apart: function 32 -/
def counterpaneref04_Apart.f (a0 : ByteArray) (a1 : ByteArray) : Option (Bool):=(counterpaneref04_Within.f a0 a1).bind fun t191 => (if t191 = true then (some false) else ((counterpaneref04_Within.f a1 a0).bind fun t192 => (some (!t192))))
set_option maxHeartbeats 8000000 in
set_option maxRecDepth 100000 in
theorem counterpaneref04_Apart.calls (a0 : ByteArray) (a1 : ByteArray) (r : Bool) (w : World) (h : counterpaneref04_Apart.f a0 a1 = some r) :
  Calls Tryz.prog 32 #[.string a0,.string a1] w fun e w' => e = .returned (.bool r) ∧ Drawn0 w w':=by
 have H : ((counterpaneref04_Within.f a0 a1).bind fun t191 => (if t191 = true then (some false) else ((counterpaneref04_Within.f a1 a0).bind fun t192 => (some (!t192))))) = some r:=h
 clear h
 replace H:=Option.bind_eq_some_iff.mp H
 obtain ⟨t191,A30,H⟩:=H
 replace H : (if t191 = true then (some false) else ((counterpaneref04_Within.f a1 a0).bind fun t192 => (some (!t192)))) = some r:=H
 have A3:=Aside0.mk A30
 clear A30
 by_cases c4 : t191 = true
 ·subst c4
  have H1 : (some false) = some r:=by rw [if_pos rfl] at H; exact H
  clear H
  have H:=H1
  clear H1
  obtain rfl:=Option.some.inj H
  go_enter Tryz.func32,Tryz.ntmps32
  go_wp2_with (first | ((with_reducible refine gate_callee (f:=74) rfl ?_); refine goesL_ (some 7) rfl rfl Tryz.func74 (by kernel_rfl) rfl #[.string a0,.string a1] rfl (by (try simp only [List.map_toArray,List.map_cons,List.map_nil]); first | done | rfl | (simp only [List.length_drop,List.length_take]; rfl)) ?_; (with_reducible refine (counterpaneref04_Within.calls a0 a1 true _ A3.out).mono ?_); rintro e w' ⟨rfl,⟨nd,rfl⟩⟩; refine ⟨_,rfl,?_⟩))
  go_ret
  exact ⟨by first | rfl | (simp; done) | (simp [*]; done) | (simp [show ∀ l : List UInt8,(l != []) = !l.isEmpty from fun l => by cases l <;> rfl]; done),by repeat (first | exact Drawn0.refl _ | apply Drawn0.step)⟩
 ·replace c4:=Bool.eq_false_iff.mpr c4
  subst c4
  have H1 : ((counterpaneref04_Within.f a1 a0).bind fun t192 => (some (!t192))) = some r:=by rw [if_neg (show ¬ (false = true) by decide)] at H; exact H
  clear H
  have H:=H1
  clear H1
  replace H:=Option.bind_eq_some_iff.mp H
  obtain ⟨t192,A50,H⟩:=H
  replace H : (some (!t192)) = some r:=H
  have A5:=Aside0.mk A50
  clear A50
  obtain rfl:=Option.some.inj H
  go_enter Tryz.func32,Tryz.ntmps32
  go_wp2_with (first | ((with_reducible refine gate_callee (f:=74) rfl ?_); refine goesL_ (some 7) rfl rfl Tryz.func74 (by kernel_rfl) rfl #[.string a0,.string a1] rfl (by (try simp only [List.map_toArray,List.map_cons,List.map_nil]); first | done | rfl | (simp only [List.length_drop,List.length_take]; rfl)) ?_; (with_reducible refine (counterpaneref04_Within.calls a0 a1 false _ A3.out).mono ?_); rintro e w' ⟨rfl,⟨nd,rfl⟩⟩; refine ⟨_,rfl,?_⟩) | (go_at_call 74; (with_reducible refine (counterpaneref04_Within.calls a1 a0 t192 _ A5.out).mono ?_); rintro e w' ⟨rfl,⟨nd,rfl⟩⟩))
  go_ret
  exact ⟨by first | rfl | (simp; done) | (simp [*]; done) | (simp [show ∀ l : List UInt8,(l != []) = !l.isEmpty from fun l => by cases l <;> rfl]; done),by repeat (first | exact Drawn0.refl _ | apply Drawn0.step)⟩

end Go.Proofs.YthhohbidjhcjeaaGreatDoor.Q
