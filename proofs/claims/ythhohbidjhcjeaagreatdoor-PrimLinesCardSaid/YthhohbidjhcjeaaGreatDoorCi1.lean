/- The statement PrimLines holds: whatever the input the law returns true, and the input reads behind the call as before; the listed tables are tied to the program's text. -/
import Derived.Test.YthhohbidjhcjeaaGreatDoorBWg
import Derived.Test.YthhohbidjhcjeaaGreatDoorBWf
import Derived.Test.YthhohbidjhcjeaaGreatDoorBWe
import Derived.Test.YthhohbidjhcjeaaGreatDoorBM8
import Derived.Test.YthhohbidjhcjeaaGreatDoorBT2
import Derived.Test.YthhohbidjhcjeaaGreatDoorBM6
import Derived.Test.YthhohbidjhcjeaaGreatDoorRows
import Derived.Test.YthhohbidjhcjeaaGreatDoorCards
import Derived.Test.YthhohbidjhcjeaaGreatDoorTie
import Derived.WalkKit
import Derived.ProofKit
import Derived.OpenShut
import Derived.ShutString
import Derived.ChangeOld
import Derived.Below
import Derived.SizedLaws
import Derived.Lay
import Derived.LaidOnce
import Derived.LaidMore
import Derived.SevenTiedAt
namespace Go.Proofs.YthhohbidjhcjeaaGreatDoor.H
open Go.RowKit Go.Shelf Go.Proofs.YthhohbidjhcjeaaGreatDoorW.PrintWords Go.Proofs.YthhohbidjhcjeaaGreatDoorW.PrintLast Go.Proofs.YthhohbidjhcjeaaGreatDoorW.PrintMore
open Go.Proofs.YthhohbidjhcjeaaGreatDoor.Q Go.Proofs.YthhohbidjhcjeaaGreatDoor.Pl
set_option linter.unusedVariables false
set_option linter.unusedSimpArgs false
/-- The reference's Right of trees, of small things, asked at any world that grew. -/
theorem TR_at (l : List S41) (A : Option Addr) (c : Nat) (w : World) (hr : Kd.C k41 w A l.length l) (hc : l.length ≤ c) (hs : ∀ x ∈ l,Small x) :
  ∀ U,Below w.heap.size w U → Calls Tryz.prog 31 #[.slice A l.length c] U fun e w' => e = .returned (.bool (treeB l)) ∧ Below U.heap.size U w':=fun U hU =>
 treeR_at l A c U (Kd.C_below hr hU) hc (fun x hx => by have:=(hs x hx).p; omega) (fun x hx => by have:=(hs x hx).n; omega) (fun x hx s hm => by have:=(hs x hx).s s hm; omega)
end Go.Proofs.YthhohbidjhcjeaaGreatDoor.H
namespace Go.Proofs.YthhohbidjhcjeaaGreatDoor.H
open Go.RowKit Go.Proofs.YthhohbidjhcjeaaGreatDoor.Q Go.Proofs.YthhohbidjhcjeaaGreatDoor.Pl
set_option linter.unusedVariables false
set_option linter.unusedSimpArgs false
/-! ### lengths -/
/-! ### apart ones -/
end Go.Proofs.YthhohbidjhcjeaaGreatDoor.H
namespace Go.Proofs.YthhohbidjhcjeaaGreatDoor.H
open Go.RowKit Go.Proofs.YthhohbidjhcjeaaGreatDoor.Q Go.Proofs.YthhohbidjhcjeaaGreatDoor.Pl
set_option linter.unusedVariables false
set_option linter.unusedSimpArgs false
/-- The place of a thing in a tree. -/
theorem low_at {l : List S41} (hs : Srt l) {i : Nat} (hi : i < l.length) : lowB l (l.getD i z41).f0 = i ∧ findV l (l.getD i z41).f0 = some (l.getD i z41):=by
 have hm : l.getD i z41 ∈ l:=by rw [getD_get hi]; exact List.getElem_mem hi
 have hf:=find_of_mem hs hm
 obtain ⟨h1,h2⟩:=(has_find hs _).2 _ hf
 refine ⟨?_,hf⟩
 rcases Nat.lt_trichotomy (lowB l (l.getD i z41).f0) i with h | h | h
 ·have:=srt_get hs h hi
  rw [h1,ltP_irrefl] at this; cases this
 ·exact h
 ·have:=srt_get hs h h2
  rw [h1,ltP_irrefl] at this; cases this
/-- A change of lines. -/
def linesP (path : ByteArray) (a : Int) (o n : List ByteArray) : S25:=⟨7,path,e0,e0,a,o,n⟩
theorem lines_laws {l : List S41} (ht : Tr l) {i : Nat} (hi : i < l.length) {a : Int} {o n : List ByteArray} (hp : primB (linesP (l.getD i z41).f0 a o n) = true) :
  ((l.getD i z41).f1 ≠ 2 → applyE l (linesP (l.getD i z41).f0 a o n) = 73) ∧
  ((l.getD i z41).f1 = 2 → hunkV (l.getD i z41).f2 a o n = none → applyE l (linesP (l.getD i z41).f0 a o n) = 81) ∧
  ((l.getD i z41).f1 = 2 → ∀ y,hunkV (l.getD i z41).f2 a o n = some y → applyE l (linesP (l.getD i z41).f0 a o n) = 0 ∧ doL l (linesP (l.getD i z41).f0 a o n) = l.set i { (l.getD i z41) with f2:=y }):=by
 obtain ⟨hlo,hf⟩:=low_at ht.s hi
 obtain ⟨x,hx⟩ : ∃ x,l.getD i z41 = x:=⟨_,rfl⟩
 rw [hx] at hlo hf hp ⊢
 have hap : applyE l (linesP x.f0 a o n) = changeE l (linesP x.f0 a o n):=by
  unfold applyE
  rw [if_pos (by rw [tree_iff.mpr ht,hp]; rfl)]
  exact (doE_change (l:=l) (p:=linesP x.f0 a o n) (by show (7 : Int) ≤ 7; decide) (by show (7 : Int) ≤ 9; decide)).1
 have hth : thereV l x.f0 7 = if x.f1 = 2 then 0 else 73:=by unfold thereV; rw [hf]; rfl
 have hta : thingAt l x.f0 = x:=by unfold thingAt; rw [hf]; rfl
 have hce : changeE l (linesP x.f0 a o n) = if thereV l x.f0 7 = 0 then (if (changeV x (linesP x.f0 a o n)).isSome then 0 else 81) else thereV l x.f0 7:=by
  unfold changeE
  show (if thereV l x.f0 7 = 0 then (if (changeV (thingAt l x.f0) (linesP x.f0 a o n)).isSome then 0 else 81) else thereV l x.f0 7) = _
  rw [hta]
 have hcv : changeV x (linesP x.f0 a o n) = (hunkV x.f2 a o n).map (fun l => { x with f2:=l }):=rfl
 rw [hap,hce,hth,hcv]
 refine ⟨fun h => ?_,fun h1 h2 => ?_,fun h1 y h2 => ⟨?_,?_⟩⟩
 ·rw [if_neg h]; rfl
 ·rw [if_pos h1,h2]; rfl
 ·rw [if_pos h1,h2]; rfl
 ·rw [(doE_change (l:=l) (p:=linesP x.f0 a o n) (by show (7 : Int) ≤ 7; decide) (by show (7 : Int) ≤ 9; decide)).2,change_L (p:=linesP x.f0 a o n) hf (by rw [hcv,h2]; rfl)]
  unfold setL
  show l.set (lowB l x.f0) _ = _
  rw [hlo]
end Go.Proofs.YthhohbidjhcjeaaGreatDoor.H
namespace Go.Proofs.YthhohbidjhcjeaaGreatDoor.H
open Go.RowKit Go.Shelf Go.Proofs.YthhohbidjhcjeaaGreatDoorW.PrintWords Go.Proofs.YthhohbidjhcjeaaGreatDoorW.PrintLast Go.Proofs.YthhohbidjhcjeaaGreatDoorW.PrintMore
open Go.Proofs.YthhohbidjhcjeaaGreatDoor.Q Go.Proofs.YthhohbidjhcjeaaGreatDoor.Pl
set_option linter.unusedVariables false
set_option linter.unusedSimpArgs false
theorem lit0E (w : World) : Kd.N k41 41 (w.alloc (.cells #[] 41)) w.heap.size (fun _ => True) (.slice (some ⟨w.heap.size,0,none⟩) 0 0) []:=by
 have hr : Reps (fun x c => Kd.FK k41 w (fun _ => False) x c) k41.sz [] []:=Reps.none _ _
 have ho : Kd.NN k41 41 (w.alloc (.cells #[] 41)) w.heap.size (fun _ => False) (.slice (some ⟨w.heap.size,0,none⟩) 0 0) [] :=
  OwnRow.lit w w.heap.size (hr.imp_ (fun _ _ h => Kd.FK_below h (below_alloc (Below.refl _ _) _))) (Nat.le_refl _) (by simp)
 exact Kd.N_mono (Kd.NN_N ho (fun _ h => h.elim)) (fun _ _ => trivial)
end Go.Proofs.YthhohbidjhcjeaaGreatDoor.H
namespace Go.Proofs.YthhohbidjhcjeaaGreatDoor.H
open Go.RowKit Go.Shelf Go.Proofs.YthhohbidjhcjeaaGreatDoorW.PrintWords Go.Proofs.YthhohbidjhcjeaaGreatDoorW.PrintLast Go.Proofs.YthhohbidjhcjeaaGreatDoorW.PrintMore
open Go.Proofs.YthhohbidjhcjeaaGreatDoor.Q Go.Proofs.YthhohbidjhcjeaaGreatDoor.Pl
set_option linter.unusedVariables false
set_option linter.unusedSimpArgs false
theorem litSE (w : World) : Kd.N Kd.string 9 (w.alloc (.cells #[] 9)) w.heap.size (fun _ => True) (.slice (some ⟨w.heap.size,0,none⟩) 0 0) []:=by
 have hr : Reps (fun x c => Kd.FK Kd.string w (fun _ => False) x c) Kd.string.sz [] []:=Reps.none _ _
 have ho : Kd.NN Kd.string 9 (w.alloc (.cells #[] 9)) w.heap.size (fun _ => False) (.slice (some ⟨w.heap.size,0,none⟩) 0 0) [] :=
  OwnRow.lit w w.heap.size (hr.imp_ (fun _ _ h => Kd.FK_below h (below_alloc (Below.refl _ _) _))) (Nat.le_refl _) (by simp)
 exact Kd.N_mono (Kd.NN_N ho (fun _ h => h.elim)) (fun _ _ => trivial)
theorem take_more {L O : List ByteArray} {a i : Nat} (h1 : a + i < L.length) (h2 : i < O.length) (h : (L.drop a).take i = O.take i) (he : L[a + i] = O[i]) : (L.drop a).take (i + 1) = O.take (i + 1):=by
 rw [List.take_add_one,List.take_add_one,h,List.getElem?_drop,List.getElem?_eq_getElem h1,List.getElem?_eq_getElem h2,he]
theorem hunk_no {L O N : List ByteArray} {a i : Nat} (h1 : a + i < L.length) (h2 : i < O.length) (he : ¬ L[a + i] = O[i]) : hunkV L a O N = none:=by
 unfold hunkV
 rw [if_neg]
 rintro ⟨_,h3,h4⟩
 rw [Int.toNat_natCast] at h3 h4
 apply he
 have h5 : ((L.drop a).take O.length)[i]? = O[i]?:=by rw [h4]
 rw [List.getElem?_take,if_pos h2,List.getElem?_drop,List.getElem?_eq_getElem h1,List.getElem?_eq_getElem h2] at h5
 exact Option.some.inj h5
set_option maxHeartbeats 8000000 in
set_option maxRecDepth 1000000 in
theorem hunkR_at (L O N : List ByteArray) (A : Option Addr) (c : Nat) (a : Nat) (AO : Option Addr) (cO : Nat) (AN : Option Addr) (cN : Nat) (W : World) (gL : Kd.string.C W A L.length L) (lL : L.length ≤ c) (gO : Kd.string.C W AO O.length O) (lO : O.length ≤ cO) (gN : Kd.string.C W AN N.length N) (lN : N.length ≤ cN)
  (ha : a ≤ 1073741824) (hl1 : L.length ≤ 1000000000) (hl2 : O.length ≤ 1000000000) (hl3 : N.length ≤ 1000000000) :
  Calls Tryz.prog 37 #[.slice A L.length c,.agg #[.int .i64 (a : Int),.slice AO O.length cO,.slice AN N.length cN]] W fun e W' => Below W.heap.size W W' ∧
   ∃ Y d,e = .returned (.tuple #[.slice Y ((hunkV L a O N).getD []).length d,.bool (hunkV L a O N).isSome]) ∧ ∀ M,hunkV L a O N = some M → M.length ≤ d ∧ Kd.string.C W' Y M.length M:=by
 have HB : Aside0 (Below W.heap.size W (W.alloc (.cells #[.int .i64 (a : Int),.slice AO O.length cO,.slice AN N.length cN] 53))):=⟨below_alloc (Below.refl _ _) _⟩
 have HX : Aside0 ((W.alloc (.cells #[.int .i64 (a : Int),.slice AO O.length cO,.slice AN N.length cN] 53)).heap[W.heap.size]? = some (.cells #[.int .i64 (a : Int),.slice AO O.length cO,.slice AN N.length cN] 53 (0,0))):=⟨blk_new _ _⟩
 have b0:=(blk_cell HX.out 0).trans (show _ = some (Value.int .i64 (a : Int)) from rfl)
 have b1:=(blk_cell HX.out 1).trans (show _ = some (Value.slice AO O.length cO) from rfl)
 have b2:=(blk_cell HX.out 2).trans (show _ = some (Value.slice AN N.length cN) from rfl)
 have e0 : decide ((a : Int) < 0) = false:=decide_eq_false (by omega)
 have GL:=Aside0.mk gL
 have GO:=Aside0.mk gO
 have GN:=Aside0.mk gN
 have H1:=Aside0.mk hl1
 have H2:=Aside0.mk hl2
 have H3:=Aside0.mk hl3
 have LL:=Aside0.mk lL
 have LO:=Aside0.mk lO
 have LN:=Aside0.mk lN
 have hw1 : IntKind.i64.wrap ((L.length : Int) - (a : Int)) = (L.length : Int) - (a : Int):=wrap64_same (by omega) (by omega)
 clear gL gO gN lL lO lN
 by_cases h1 : a ≤ L.length
 ·have e1 : decide ((L.length : Int) < (a : Int)) = false:=decide_eq_false (by omega)
  have e1n : decide (L.length < a) = false:=decide_eq_false (by omega)
  by_cases h2 : a + O.length ≤ L.length
  ·have e2 : decide ((L.length : Int) - (a : Int) < (O.length : Int)) = false:=decide_eq_false (by omega)
   have hw2 : IntKind.i64.wrap ((a : Int) + (O.length : Int)) = (a : Int) + (O.length : Int):=wrap64_same (by omega) (by omega)
   have T0 : Aside0 ((L.drop a).take 0 = O.take 0):=⟨by rw [List.take_zero,List.take_zero]⟩
   go_enter Tryz.func37,Tryz.ntmps37
   go_wp2
   go_loopg [6] O.length (fun kx s6 wr => ∃ i : Nat,s6 = .int .i64 i ∧ i + kx = O.length ∧ Aside0 (Below W.heap.size W wr) ∧ Aside0 (wr.heap[W.heap.size]? = some (.cells #[.int .i64 (a : Int),.slice AO O.length cO,.slice AN N.length cN] 53 (0,0))) ∧ Aside0 ((L.drop a).take i = O.take i))
   case atStart => exact ⟨0,rfl,by omega,HB,HX,T0⟩
   case round =>
    clear b0 b1 b2 HB HX T0
    obtain ⟨i,rfl,hi,B1,X1,T1⟩:=hrel
    have b0:=(blk_cell X1.out 0).trans (show _ = some (Value.int .i64 (a : Int)) from rfl)
    have b1:=(blk_cell X1.out 1).trans (show _ = some (Value.slice AO O.length cO) from rfl)
    by_cases hlt : i < O.length
    ·have hi0 : (0 : Int) ≤ (i : Int):=by omega
     have hi1 : (i : Int) < (O.length : Int):=by omega
     have hx0 : (0 : Int) ≤ (a : Int) + (i : Int):=by omega
     have hx1 : (a : Int) + (i : Int) < (L.length : Int):=by omega
     have hdb : decide ((i : Int) < (O.length : Int)) = true:=decide_eq_true hi1
     have hwi : IntKind.i64.wrap ((i : Int) + 1) = ((i + 1 : Nat) : Int):=by rw [wrap_small _ (by omega) (by omega)]; omega
     have hwx : IntKind.i64.wrap ((a : Int) + (i : Int)) = (a : Int) + (i : Int):=wrap64_same (by omega) (by omega)
     obtain ⟨ad,rfl,hcl⟩:=Kd.at_string (Kd.C_below GL.out B1.out) ((a : Int) + (i : Int)) hx0 hx1
     obtain ⟨ao,rfl,hco⟩:=Kd.at_string (Kd.C_below GO.out B1.out) (i : Int) hi0 hi1
     have hcx : L[a + i]'(by omega) = rdOf ByteArray.empty L ((a : Int) + (i : Int)):=by
      rw [show (a : Int) + (i : Int) = ((a + i : Nat) : Int) by omega]; exact (rdOf_get _ _ (by omega)).symm
     have hcy : O[i] = rdOf ByteArray.empty O (i : Int):=(rdOf_get _ _ hlt).symm
     obtain ⟨x,hx⟩ : ∃ x,rdOf ByteArray.empty L ((a : Int) + (i : Int)) = x:=⟨_,rfl⟩
     obtain ⟨y,hy⟩ : ∃ y,rdOf ByteArray.empty O (i : Int) = y:=⟨_,rfl⟩
     rw [hx] at hcl hcx
     rw [hy,Int.toNat_natCast] at hco
     rw [hy] at hcy
     have TM : Aside0 (x = y → Aside0 ((L.drop a).take (i + 1) = O.take (i + 1))):=⟨fun h => ⟨take_more (by omega) hlt T1.out (by rw [hcx,hcy,h])⟩⟩
     have TN : Aside0 (¬ x = y → Aside0 (hunkV L a O N = none)):=⟨fun h => ⟨hunk_no (by omega) hlt (by rw [hcx,hcy]; exact h)⟩⟩
     clear hx hy hcx hcy
     by_cases hxy : x = y
     ·subst hxy
      go_wp2
      go_region_held3 (fun U => U.cell? ⟨W.heap.size,0,none⟩ = some (.int .i64 (a : Int)) ∧ U.cell? ⟨W.heap.size,1,none⟩ = some (.slice (some ao) O.length cO) ∧ U.cell? (ad.add ((a : Int) + (i : Int)).toNat) = some (.string x) ∧ U.cell? (ao.add i) = some (.string x)) (exact ⟨b0,b1,hcl,hco⟩) (fail)
      go_wp2
      go_roundg (O.length - (i + 1))
      case measure => omega
      case rel =>
       clear b0 b1 hcl hco
       exact ⟨i + 1,rfl,by omega,⟨below_drew B1.out⟩,⟨X1.out⟩,TM.out (by trivial)⟩
     ·have hv:=(TN.out hxy).out
      have hv:=Aside0.mk hv
      have hbe : (x.toList == y.toList) = false:=by rw [beq_eq_false_iff_ne]; exact fun h => hxy (toList_inj h)
      go_wp2
      go_region_held3 (fun U => U.cell? ⟨W.heap.size,0,none⟩ = some (.int .i64 (a : Int)) ∧ U.cell? ⟨W.heap.size,1,none⟩ = some (.slice (some ao) O.length cO) ∧ U.cell? (ad.add ((a : Int) + (i : Int)).toNat) = some (.string x) ∧ U.cell? (ao.add i) = some (.string y)) (exact ⟨b0,b1,hcl,hco⟩) (fail)
      go_wp2
      go_ret2
      exact ⟨below_drew B1.out,none,0,by rw [hv.out]; rfl,fun M h => by rw [hv.out] at h; cases h⟩
    ·obtain rfl : i = O.length:=by omega
     have hdb : decide ((O.length : Int) < (O.length : Int)) = false:=decide_eq_false (by omega)
     have hv : Aside0 (hunkV L a O N = some (L.take a ++ N ++ L.drop (a + O.length))):=⟨by
      unfold hunkV
      rw [if_pos,Int.toNat_natCast]
      refine ⟨by omega,by rw [Int.toNat_natCast]; exact h2,?_⟩
      rw [Int.toNat_natCast,T1.out,List.take_length]⟩
     obtain ⟨i0,hi0,_,hsz,_⟩:=info_parts infoS
     have hcut2:=cut_to (P:=Tryz.prog) 23 9 .i64 Tryz.underlying23 hi0 A L.length c (a : Int) (by omega) (by omega) LL.out
     have hcut3:=cut_from (P:=Tryz.prog) 23 9 .i64 Tryz.underlying23 hi0 1 hsz A L.length c ((a : Int) + (O.length : Int)) (by omega) (by omega)
     rw [Int.toNat_natCast] at hcut2
     rw [show ((a : Int) + (O.length : Int)).toNat = a + O.length by omega] at hcut3
     have C2 : ∀ w,Kd.string.C w A L.length L → Kd.string.C w A a (L.take a):=fun w h => by
      have h3:=Kd.C_take h (m:=a) h1
      rwa [show (L.take a).length = a by rw [List.length_take]; omega] at h3
     have C3 : ∀ w,Kd.string.C w A L.length L → Kd.string.C w (if c = a + O.length then A else A.map (·.add ((a + O.length) * 1))) (L.length - (a + O.length)) (L.drop (a + O.length)):=fun w h => by
      have h3:=Kd.C_drop h (m:=a + O.length) h2 LL.out
      rw [List.length_drop] at h3
      exact h3
     obtain ⟨A3,hA3⟩ : ∃ A3,(if c = a + O.length then A else A.map (·.add ((a + O.length) * 1))) = A3:=⟨_,rfl⟩
     rw [hA3] at hcut3 C3
     have F2 : Aside0 (Kd.F Kd.string wr (fun k => k < wr.heap.size) A a (L.take a)):=⟨Kd.C_F Kd.heap_string (C2 _ (Kd.C_below GL.out B1.out))⟩
     have F3 : Aside0 (Kd.F Kd.string wr (fun k => k < wr.heap.size) A3 (L.length - (a + O.length)) (L.drop (a + O.length))):=⟨Kd.C_F Kd.heap_string (C3 _ (Kd.C_below GL.out B1.out))⟩
     have FN : Aside0 (Kd.F Kd.string wr (fun k => k < wr.heap.size) AN N.length N):=⟨Kd.C_F Kd.heap_string (Kd.C_below GN.out B1.out)⟩
     have hml : Aside0 ((L.take a).length = a):=⟨by rw [List.length_take]; omega⟩
     clear C2 C3 hA3 hi0 hsz T1
     have hL : Aside0 (Below wr.heap.size wr (wr.alloc (.cells #[] 9))):=⟨below_alloc (Below.refl _ _) _⟩
     have hN0:=Aside0.mk (litSE wr)
     have ok0 : Aside0 (∀ k,k < wr.heap.size → True ∧ some k ≠ (Value.slice (some ⟨wr.heap.size,0,none⟩) 0 0).ownBlock):=⟨fun k hk => ⟨trivial,fun e => by simp [Value.ownBlock] at e; omega⟩⟩
     have b0':=pw_cell_below hL.out b0
     obtain ⟨m2,hm2⟩ : ∃ m,L.take a = m:=⟨_,rfl⟩
     rw [hm2] at hml hv F2
     obtain ⟨m3,hm3⟩ : ∃ m,L.drop (a + O.length) = m:=⟨_,rfl⟩
     rw [hm3] at hv F3
     clear hm2 hm3
     go_upto_region 9 with (((with_reducible refine gate_builtin (b:=.append) (xs:=#[.tmp 49,.tmp 53]) rfl ?_); at_builtin; refine Kd.N_append_rows Kd.string (w0:=wr) wr.heap.size rfl (.tmp 49) (.tmp 53) 23 9 (.string ⟨#[]⟩) 16 rfl Tryz.underlying23 infoS rfl (by decide) (by omega) (.slice (some ⟨wr.heap.size,0,none⟩) 0 0) [] m2 A a c (fun _ => True) (fun k => k < wr.heap.size) rfl rfl ?aO ?aR ?aP (fun _ _ => trivial) ?aB ?aS ?aL ?_; (case aO => exact hN0.out); (case aR => exact Kd.F_below F2.out hL.out); (case aP => exact ok0.out); (case aB => exact hL.out); (case aS => exact (hL.out).size); (case aL => have:=H1.out; simp; omega); intro v1 y1 hN1 hB1 hg_ hat_; replace hN1:=Aside0.mk hN1; replace hB1:=Aside0.mk hB1; clear hg_ hat_))
     rw [List.nil_append] at hN1
     clear b0 b1 b0' hL hN0 ok0 F2 hcut2
     have X2:=Aside0.mk (blk_below X1.out hB1.out)
     have b2:=(blk_cell X2.out 2).trans (show _ = some (Value.slice AN N.length cN) from rfl)
     have ok1 : Aside0 (∀ k,k < wr.heap.size → True ∧ some k ≠ v1.ownBlock):=⟨fun k hk => ⟨trivial,fun e => absurd (Kd.N_base hN1.out k e.symm) (by omega)⟩⟩
     go_upto_region 10 with (((with_reducible refine gate_builtin (b:=.append) (xs:=#[.tmp 55,.tmp 57]) rfl ?_); at_builtin; refine Kd.N_append_rows Kd.string (w0:=wr) wr.heap.size rfl (.tmp 55) (.tmp 57) 23 9 (.string ⟨#[]⟩) 16 rfl Tryz.underlying23 infoS rfl (by decide) (by omega) v1 m2 N AN N.length cN (fun _ => True) (fun k => k < wr.heap.size) rfl rfl ?aO ?aR ?aP (fun _ _ => trivial) ?aB ?aS ?aL ?_; (case aO => exact hN1.out); (case aR => exact Kd.F_below FN.out hB1.out); (case aP => exact ok1.out); (case aB => exact hB1.out); (case aS => exact (hB1.out).size); (case aL => have:=H1.out; have:=H3.out; have:=hml.out; omega); intro v2 y2 hN2 hB2 hg_ hat_; replace hN2:=Aside0.mk hN2; replace hB2:=Aside0.mk hB2; clear hg_ hat_))
     clear b2 hN1 hB1 ok1 FN X2
     have X3:=Aside0.mk (blk_below X1.out hB2.out)
     have b0:=(blk_cell X3.out 0).trans (show _ = some (Value.int .i64 (a : Int)) from rfl)
     have b1:=(blk_cell X3.out 1).trans (show _ = some (Value.slice AO O.length cO) from rfl)
     have ok2 : Aside0 (∀ k,k < wr.heap.size → True ∧ some k ≠ v2.ownBlock):=⟨fun k hk => ⟨trivial,fun e => absurd (Kd.N_base hN2.out k e.symm) (by omega)⟩⟩
     go_wp2_with (((with_reducible refine gate_builtin (b:=.append) (xs:=#[.tmp 59,.tmp 67]) rfl ?_); at_builtin; refine Kd.N_append_rows Kd.string (w0:=wr) wr.heap.size rfl (.tmp 59) (.tmp 67) 23 9 (.string ⟨#[]⟩) 16 rfl Tryz.underlying23 infoS rfl (by decide) (by omega) v2 (m2 ++ N) m3 A3 (L.length - (a + O.length)) (c - (a + O.length)) (fun _ => True) (fun k => k < wr.heap.size) rfl rfl ?aO ?aR ?aP (fun _ _ => trivial) ?aB ?aS ?aL ?_; (case aO => exact hN2.out); (case aR => exact Kd.F_below F3.out hB2.out); (case aP => exact ok2.out); (case aB => exact hB2.out); (case aS => exact (hB2.out).size); (case aL => have:=H1.out; have:=H3.out; have:=hml.out; rw [List.length_append]; omega); intro v3 y3 hN3 hB3 hg_ hat_; replace hN3:=Aside0.mk hN3; replace hB3:=Aside0.mk hB3; clear hg_ hat_))
     go_ret2
     obtain ⟨Y,d,rfl,hd,hC⟩:=Kd.N_reads hN3.out
     exact ⟨B1.out.trans (hB3.out.mono B1.out.size),Y,d,by rw [hv.out]; rfl,fun M h => by rw [hv.out] at h; cases h; exact ⟨hd,hC⟩⟩
  ·have e1' : decide ((L.length : Int) - (a : Int) < (O.length : Int)) = true:=decide_eq_true (by omega)
   have hv : hunkV L a O N = none:=by
    unfold hunkV
    rw [if_neg]
    rintro ⟨_,h,_⟩
    rw [Int.toNat_natCast] at h
    omega
   rw [hv]
   clear hv
   go_enter Tryz.func37,Tryz.ntmps37
   go_wp2
   go_ret2
   exact ⟨HB.out,_,_,rfl,fun M h => by cases h⟩
 ·have e1 : decide ((L.length : Int) < (a : Int)) = true:=decide_eq_true (by omega)
  have hv : hunkV L a O N = none:=by
   unfold hunkV
   rw [if_neg]
   rintro ⟨_,h,_⟩
   rw [Int.toNat_natCast] at h
   omega
  rw [hv]
  clear hv
  go_enter Tryz.func37,Tryz.ntmps37
  go_wp2
  go_ret2
  exact ⟨HB.out,_,_,rfl,fun M h => by cases h⟩
end Go.Proofs.YthhohbidjhcjeaaGreatDoor.H
namespace Go.Proofs.YthhohbidjhcjeaaGreatDoor.H
open Go.RowKit Go.Shelf Go.Proofs.YthhohbidjhcjeaaGreatDoorW.PrintWords Go.Proofs.YthhohbidjhcjeaaGreatDoorW.PrintLast Go.Proofs.YthhohbidjhcjeaaGreatDoorW.PrintMore
open Go.Proofs.YthhohbidjhcjeaaGreatDoor.Q Go.Proofs.YthhohbidjhcjeaaGreatDoor.Pl
set_option linter.unusedVariables false
set_option linter.unusedSimpArgs false
theorem lines_ok {s : ByteArray} {a : Int} {o n : List ByteArray} (h : primB (linesP s a o n) = true) : 0 ≤ a ∧ a ≤ 1073741824:=by
 have hk : kindB (linesP s a o n) = true:=by
  unfold primB at h
  simp only [Bool.and_eq_true] at h
  exact h.2
 simp only [kindB,linesP] at hk
 rw [if_neg (by decide),if_neg (by decide),if_pos (show e0.toList = ([] : List UInt8) by rw [toList_data]; rfl),if_neg (by decide)] at hk
 simp only [if_true,if_pos,Bool.and_eq_true,decide_eq_true_eq] at hk
 exact ⟨of_decide_eq_true hk.1.1.1.1.2,of_decide_eq_true hk.1.1.1.2⟩
set_option maxHeartbeats 4000000 in
set_option maxRecDepth 1000000 in
theorem plines_calls (l : List S41) (A : Option Addr) (c : Nat) (a : Int) (p : S25) (A5 : Option Addr) (a5 : Nat) (A6 : Option Addr) (a6 : Nat) (w : World) (hr : Kd.C k41 w A l.length l) (hc : l.length ≤ c) (hn : l.length ≤ 140737488355328) (hx : ∀ x ∈ l,x.f2.length ≤ 140737488355328) (hp : Okp p) (rp : Rd w p A5 a5 A6 a6) (ha0 : 0 ≤ a) (ha1 : a ≤ 255) :
  Calls Tryz.prog 8 #[.slice A l.length c,.int .u8 a,.agg #[.int .i64 p.f0,.string p.f1,.string p.f2,.string p.f3,.int .i64 p.f4,.slice A5 p.f5.length a5,.slice A6 p.f6.length a6]] w fun e w' => e = .returned (.bool true) ∧ Below w.heap.size w w':=by
 obtain ⟨g,hgs,hG⟩:=G_at l A c w hr hc hn hx
 obtain ⟨k,hks,hK⟩:=K_at p A5 a5 A6 a6 w hp rp
 replace hG:=Aside0.mk hG
 replace hK:=Aside0.mk hK
 replace hgs:=Aside0.mk hgs
 replace hks:=Aside0.mk hks
 replace hn:=Aside0.mk hn
 replace hx:=Aside0.mk hx
 replace hr:=Aside0.mk hr
 replace hc:=Aside0.mk hc
 replace hp:=Aside0.mk hp
 replace rp:=Aside0.mk rp
 go_enter Tryz.func8,Tryz.ntmps8
 go_wp2_with (fail)
 refine (head08_calls _).mono ?_
 rintro e w1 ⟨rfl,hb1⟩
 have hs1 : Below w.heap.size w w1:=two_steps (by repeat (first | exact Below.refl _ _ | refine Below.setCell ?_ (by simp <;> omega) _ | refine Below.alloc ?_ (by simp <;> omega) _ | refine Below.drew ?_)) hb1
 have hw1 : Below w.heap.size w w1:=(Below.refl w.heap.size w).trans (hs1.mono (Below.refl w.heap.size w).size)
 have xp : w1.heap[w.heap.size]? = some (.cells #[.int .i64 p.f0,.string p.f1,.string p.f2,.string p.f3,.int .i64 p.f4,.slice A5 p.f5.length a5,.slice A6 p.f6.length a6] 25 (0,0)):=blk_below (blk_new w _) hb1
 clear hb1
 obtain ⟨pc0,pc1,pc2,pc3,pc4,pc5,pc6⟩:=cells7 xp
 go_wp2_with (fail)
 refine (hG.out _ (by repeat (first | with_reducible exact hw1 | refine Below.setCell ?_ (by have:=hw1.size; simp <;> omega) _ | refine Below.alloc ?_ (by have:=hw1.size; simp <;> omega) _ | refine Below.drew ?_))).mono ?_
 rintro e w2 ⟨rfl,hb2⟩
 clear pc0 pc1 pc2 pc3 pc4 pc5 pc6
 have hs2 : Below w1.heap.size w1 w2:=two_steps (by repeat (first | exact Below.refl _ _ | refine Below.setCell ?_ (by simp <;> omega) _ | refine Below.alloc ?_ (by simp <;> omega) _ | refine Below.drew ?_)) hb2
 have hw2 : Below w.heap.size w w2:=hw1.trans (hs2.mono hw1.size)
 have xp:=blk_below xp hs2
 clear hb2
 obtain ⟨pc0,pc1,pc2,pc3,pc4,pc5,pc6⟩:=cells7 xp
 cases g with
 | true =>
  go_wp2
  go_ret
  exact ⟨rfl,(by repeat (first | with_reducible exact hw2 | refine Below.setCell ?_ (by have:=hw2.size; simp <;> omega) _ | refine Below.alloc ?_ (by have:=hw2.size; simp <;> omega) _ | refine Below.drew ?_))⟩
 | false =>
  go_wp2_with (fail)
  refine (hK.out _ (by repeat (first | with_reducible exact hw2 | refine Below.setCell ?_ (by have:=hw2.size; simp <;> omega) _ | refine Below.alloc ?_ (by have:=hw2.size; simp <;> omega) _ | refine Below.drew ?_))).mono ?_
  rintro e w3 ⟨rfl,hb3⟩
  clear pc0 pc1 pc2 pc3 pc4 pc5 pc6
  have hs3 : Below w2.heap.size w2 w3:=two_steps (by repeat (first | exact Below.refl _ _ | refine Below.setCell ?_ (by simp <;> omega) _ | refine Below.alloc ?_ (by simp <;> omega) _ | refine Below.drew ?_)) hb3
  have hw3 : Below w.heap.size w w3:=hw2.trans (hs3.mono hw2.size)
  have xp:=blk_below xp hs3
  clear hb3
  obtain ⟨pc0,pc1,pc2,pc3,pc4,pc5,pc6⟩:=cells7 xp
  cases k with
  | true =>
   go_wp2
   go_ret
   exact ⟨rfl,(by repeat (first | with_reducible exact hw3 | refine Below.setCell ?_ (by have:=hw3.size; simp <;> omega) _ | refine Below.alloc ?_ (by have:=hw3.size; simp <;> omega) _ | refine Below.drew ?_))⟩
  | false =>
   have hsm:=Aside0.mk (hgs.out (by trivial))
   have hsp:=Aside0.mk (hks.out (by trivial))
   have hT:=Aside0.mk (TR_at l A c w hr.out hc.out hsm.out.2)
   cases ht : treeB l with
   | false =>
    rw [ht] at hT
    go_wp2_with (fail)
    refine (hT.out _ (by repeat (first | with_reducible exact hw3 | refine Below.setCell ?_ (by have:=hw3.size; simp <;> omega) _ | refine Below.alloc ?_ (by have:=hw3.size; simp <;> omega) _ | refine Below.drew ?_))).mono ?_
    rintro e w4 ⟨rfl,hb4⟩
    clear pc0 pc1 pc2 pc3 pc4 pc5 pc6
    have hs4 : Below w3.heap.size w3 w4:=two_steps (by repeat (first | exact Below.refl _ _ | refine Below.setCell ?_ (by simp <;> omega) _ | refine Below.alloc ?_ (by simp <;> omega) _ | refine Below.drew ?_)) hb4
    have hw4 : Below w.heap.size w w4:=hw3.trans (hs4.mono hw3.size)
    have xp:=blk_below xp hs4
    clear hb4
    obtain ⟨pc0,pc1,pc2,pc3,pc4,pc5,pc6⟩:=cells7 xp
    go_wp2
    go_ret
    exact ⟨rfl,(by repeat (first | with_reducible exact hw4 | refine Below.setCell ?_ (by have:=hw4.size; simp <;> omega) _ | refine Below.alloc ?_ (by have:=hw4.size; simp <;> omega) _ | refine Below.drew ?_))⟩
   | true =>
    rw [ht] at hT
    replace ht:=Aside0.mk ht
    go_wp2_with (fail)
    refine (hT.out _ (by repeat (first | with_reducible exact hw3 | refine Below.setCell ?_ (by have:=hw3.size; simp <;> omega) _ | refine Below.alloc ?_ (by have:=hw3.size; simp <;> omega) _ | refine Below.drew ?_))).mono ?_
    rintro e w4 ⟨rfl,hb4⟩
    clear pc0 pc1 pc2 pc3 pc4 pc5 pc6
    have hs4 : Below w3.heap.size w3 w4:=two_steps (by repeat (first | exact Below.refl _ _ | refine Below.setCell ?_ (by simp <;> omega) _ | refine Below.alloc ?_ (by simp <;> omega) _ | refine Below.drew ?_)) hb4
    have hw4 : Below w.heap.size w w4:=hw3.trans (hs4.mono hw3.size)
    have xp:=blk_below xp hs4
    clear hb4
    obtain ⟨pc0,pc1,pc2,pc3,pc4,pc5,pc6⟩:=cells7 xp
    rcases Nat.eq_zero_or_pos l.length with hz | hpos
    ·have hzi : ((l.length : Int) == 0) = true:=by rw [hz]; rfl
     have hz2:=Aside0.mk hz
     clear hz
     go_wp2
     go_ret
     exact ⟨rfl,(by repeat (first | with_reducible exact hw4 | refine Below.setCell ?_ (by have:=hw4.size; simp <;> omega) _ | refine Below.alloc ?_ (by have:=hw4.size; simp <;> omega) _ | refine Below.drew ?_))⟩
    ·have hzi : ((l.length : Int) == 0) = false:=by rw [beq_eq_false_iff_ne]; omega
     obtain ⟨i,hi⟩ : ∃ i : Nat,(i : Int) = a.tmod l.length:=⟨(a.tmod l.length).toNat,by rw [Int.toNat_of_nonneg (Int.tmod_nonneg _ ha0)]⟩
     have hlt : i < l.length:=by have:=Int.tmod_lt_of_pos a (show (0 : Int) < (l.length : Int) by omega); omega
     have hwa : IntKind.i64.wrap a = a:=wrap64_same (by omega) (by omega)
     have hi' : a.tmod (l.length : Int) = (i : Int):=hi.symm
     clear hi
     have i0 : (0 : Int) ≤ (i : Int):=by omega
     have i1 : (i : Int) < (l.length : Int):=by omega
     have hlen0 : ((l.length : Int) = 0) = False:=eq_false (by omega)
     go_upto_region 5 with (fail)
     have hwaA:=Aside0.mk hwa
     have hiA:=Aside0.mk hi'
     clear hwa hi' hzi
     clear pc0 pc1 pc2 pc3 pc4 pc5 pc6
     have hce:=(blk_cell xp 0).trans (show _ = some (Value.int .i64 p.f0) from rfl)
     have hf0:=blk_frozen xp 0
     have hv0 : Below w.heap.size w (w4.setCell ⟨w.heap.size,0,none⟩ (.int .i64 7)):=Below.setCell (p:=⟨w.heap.size,0,none⟩) hw4 (Nat.le_refl _) _
     have xp0 : (w4.setCell ⟨w.heap.size,0,none⟩ (.int .i64 7)).heap[w.heap.size]? = some (.cells #[.int .i64 7,.string p.f1,.string p.f2,.string p.f3,.int .i64 p.f4,.slice A5 p.f5.length a5,.slice A6 p.f6.length a6] 25 (0,0)):=blk_set xp 0 _
     generalize hV : w4.setCell ⟨w.heap.size,0,none⟩ (.int .i64 7) = u0 at hv0 xp0
     go_upto_region 6 with (fail)
     try rw [hV]
     clear hf0 hce hV xp
     obtain ⟨ad,X,d,rfl,rx,q0,q1,q2,q3⟩:=ent_at (Kd.C_below hr.out hv0) i hlt rfl
     obtain ⟨x,hxe⟩ : ∃ x,l.getD i z41 = x:=⟨_,rfl⟩
     rw [hxe] at rx q0 q1 q2 q3
     replace hxe:=Aside0.mk hxe
     clear rx q1 q2 q3
     have hce:=(blk_cell xp0 1).trans (show _ = some (Value.string p.f1) from rfl)
     have hf0:=blk_frozen xp0 1
     have hv1 : Below w.heap.size w (u0.setCell ⟨w.heap.size,1,none⟩ (.string x.f0)):=Below.setCell (p:=⟨w.heap.size,1,none⟩) hv0 (Nat.le_refl _) _
     have xp1 : (u0.setCell ⟨w.heap.size,1,none⟩ (.string x.f0)).heap[w.heap.size]? = some (.cells #[.int .i64 7,.string x.f0,.string p.f2,.string p.f3,.int .i64 p.f4,.slice A5 p.f5.length a5,.slice A6 p.f6.length a6] 25 (0,0)):=blk_set xp0 1 _
     generalize hV : u0.setCell ⟨w.heap.size,1,none⟩ (.string x.f0) = u1 at hv1 xp1
     go_upto_region 7 with (fail)
     try rw [hV]
     clear hf0 hce hV xp0
     clear q0
     have hce:=(blk_cell xp1 2).trans (show _ = some (Value.string p.f2) from rfl)
     have hf0:=blk_frozen xp1 2
     have hv2 : Below w.heap.size w (u1.setCell ⟨w.heap.size,2,none⟩ (.string ⟨#[]⟩)):=Below.setCell (p:=⟨w.heap.size,2,none⟩) hv1 (Nat.le_refl _) _
     have xp2 : (u1.setCell ⟨w.heap.size,2,none⟩ (.string ⟨#[]⟩)).heap[w.heap.size]? = some (.cells #[.int .i64 7,.string x.f0,.string ⟨#[]⟩,.string p.f3,.int .i64 p.f4,.slice A5 p.f5.length a5,.slice A6 p.f6.length a6] 25 (0,0)):=blk_set xp1 2 _
     generalize hV : u1.setCell ⟨w.heap.size,2,none⟩ (.string ⟨#[]⟩) = u2 at hv2 xp2
     go_upto_region 8 with (fail)
     try rw [hV]
     clear hf0 hce hV xp1
     have hce:=(blk_cell xp2 3).trans (show _ = some (Value.string p.f3) from rfl)
     have hf0:=blk_frozen xp2 3
     have hv3 : Below w.heap.size w (u2.setCell ⟨w.heap.size,3,none⟩ (.string ⟨#[]⟩)):=Below.setCell (p:=⟨w.heap.size,3,none⟩) hv2 (Nat.le_refl _) _
     have xp3 : (u2.setCell ⟨w.heap.size,3,none⟩ (.string ⟨#[]⟩)).heap[w.heap.size]? = some (.cells #[.int .i64 7,.string x.f0,.string ⟨#[]⟩,.string ⟨#[]⟩,.int .i64 p.f4,.slice A5 p.f5.length a5,.slice A6 p.f6.length a6] 25 (0,0)):=blk_set xp2 3 _
     generalize hV : u2.setCell ⟨w.heap.size,3,none⟩ (.string ⟨#[]⟩) = u3 at hv3 xp3
     go_upto_region 9 with (fail)
     try rw [hV]
     clear hf0 hce hV xp2
     clear hv0 hv1 hv2
     have xp:=xp3
     clear xp3
     have hxm : x ∈ l:=by rw [← hxe.out,getD_get hlt]; exact List.getElem_mem hlt
     have hxs:=Aside0.mk (hsm.out.2 x hxm)
     clear hxm
     have hqs : Aside0 (SmallQ (linesP x.f0 p.f4 p.f5 p.f6)):=⟨⟨by have:=hxs.out.p; show x.f0.size < 4000; omega,by show e0.size < 4000; decide,by show e0.size < 4000; decide,(smallq hsp.out).n5,(smallq hsp.out).n6,(smallq hsp.out).s5,(smallq hsp.out).s6⟩⟩
     have hPR : ∀ U,Below w.heap.size w U → Calls Tryz.prog 25 #[.agg #[.int .i64 7,.string x.f0,.string ⟨#[]⟩,.string ⟨#[]⟩,.int .i64 p.f4,.slice A5 p.f5.length a5,.slice A6 p.f6.length a6]] U fun e w' => e = .returned (.bool (primB (linesP x.f0 p.f4 p.f5 p.f6))) ∧ Below U.heap.size U w':=fun U h => primRight_at (linesP x.f0 p.f4 p.f5 p.f6) hqs.out.ok A5 a5 A6 a6 U (Kd.C_below rp.out.g5 h) rp.out.l5 (Kd.C_below rp.out.g6 h) rp.out.l6
     replace hPR:=Aside0.mk hPR
     obtain ⟨pc0,pc1,pc2,pc3,pc4,pc5,pc6⟩:=cells7 xp
     cases hpb : primB (linesP x.f0 p.f4 p.f5 p.f6) with
     | false =>
      rw [hpb] at hPR
      go_wp2_with (fail)
      refine (hPR.out _ (by repeat (first | with_reducible exact hv3 | refine Below.setCell ?_ (by have:=hv3.size; simp <;> omega) _ | refine Below.alloc ?_ (by have:=hv3.size; simp <;> omega) _ | refine Below.drew ?_))).mono ?_
      rintro e w5 ⟨rfl,hb5⟩
      clear pc0 pc1 pc2 pc3 pc4 pc5 pc6
      have hs5 : Below u3.heap.size u3 w5:=two_steps (by repeat (first | exact Below.refl _ _ | refine Below.setCell ?_ (by simp <;> omega) _ | refine Below.alloc ?_ (by simp <;> omega) _ | refine Below.drew ?_)) hb5
      have hw5 : Below w.heap.size w w5:=hv3.trans (hs5.mono hv3.size)
      have xp:=blk_below xp hs5
      clear hb5
      obtain ⟨pc0,pc1,pc2,pc3,pc4,pc5,pc6⟩:=cells7 xp
      go_wp2
      go_ret
      exact ⟨rfl,(by repeat (first | with_reducible exact hw5 | refine Below.setCell ?_ (by have:=hw5.size; simp <;> omega) _ | refine Below.alloc ?_ (by have:=hw5.size; simp <;> omega) _ | refine Below.drew ?_))⟩
     | true =>
      rw [hpb] at hPR
      have hpb2:=Aside0.mk hpb
      clear hpb
      go_wp2_with (fail)
      refine (hPR.out _ (by repeat (first | with_reducible exact hv3 | refine Below.setCell ?_ (by have:=hv3.size; simp <;> omega) _ | refine Below.alloc ?_ (by have:=hv3.size; simp <;> omega) _ | refine Below.drew ?_))).mono ?_
      rintro e w5 ⟨rfl,hb5⟩
      clear pc0 pc1 pc2 pc3 pc4 pc5 pc6
      have hs5 : Below u3.heap.size u3 w5:=two_steps (by repeat (first | exact Below.refl _ _ | refine Below.setCell ?_ (by simp <;> omega) _ | refine Below.alloc ?_ (by simp <;> omega) _ | refine Below.drew ?_)) hb5
      have hw5 : Below w.heap.size w w5:=hv3.trans (hs5.mono hv3.size)
      have xp:=blk_below xp hs5
      clear hb5
      obtain ⟨pc0,pc1,pc2,pc3,pc4,pc5,pc6⟩:=cells7 xp
      have hrg:=Aside0.mk (lines_ok hpb2.out)
      obtain ⟨k0,hk0⟩ : ∃ k : Nat,p.f4 = (k : Int):=⟨p.f4.toNat,by have:=hrg.out.1; omega⟩
      replace hk0:=Aside0.mk hk0
      have hll:=lines_laws (tree_iff.1 ht.out) hlt (a:=p.f4) (o:=p.f5) (n:=p.f6) (by rw [hxe.out]; exact hpb2.out)
      rw [hxe.out] at hll
      have hbM:=fun h => bnd_do (small_bnd hsm.out.2) hqs.out (p:=(linesP x.f0 p.f4 p.f5 p.f6)) (l:=l) h
      have hA : ∀ U,Below w.heap.size w U → Calls Tryz.prog 23 #[.slice (some ad) l.length c,.agg #[.int .i64 7,.string x.f0,.string ⟨#[]⟩,.string ⟨#[]⟩,.int .i64 p.f4,.slice A5 p.f5.length a5,.slice A6 p.f6.length a6]] U fun e w' => ∃ S,e = .returned (.tuple #[S,.int .i64 (applyE l (linesP x.f0 p.f4 p.f5 p.f6))]) ∧ Below U.heap.size U w' ∧ (applyE l (linesP x.f0 p.f4 p.f5 p.f6) = 0 → ∃ A c,S = .slice A (doL l (linesP x.f0 p.f4 p.f5 p.f6)).length c ∧ (doL l (linesP x.f0 p.f4 p.f5 p.f6)).length ≤ c ∧ Kd.C k41 w' A (doL l (linesP x.f0 p.f4 p.f5 p.f6)).length (doL l (linesP x.f0 p.f4 p.f5 p.f6))) ∧ (applyE l (linesP x.f0 p.f4 p.f5 p.f6) ≠ 0 → S = .slice none 0 0):=fun U h => A_at l (some ad) c (linesP x.f0 p.f4 p.f5 p.f6) A5 a5 A6 a6 w hr.out ⟨rp.out.g5,rp.out.l5,rp.out.g6,rp.out.l6⟩ ((small_bnd hsm.out.2).fit (by decide)) hqs.out.fit U h
      obtain ⟨E,hE⟩ : ∃ E,applyE l (linesP x.f0 p.f4 p.f5 p.f6) = E:=⟨_,rfl⟩
      obtain ⟨M,hM⟩ : ∃ M,doL l (linesP x.f0 p.f4 p.f5 p.f6) = M:=⟨_,rfl⟩
      simp only [hE,hM] at hA hll hbM
      replace hA:=Aside0.mk hA
      replace hll:=Aside0.mk hll
      replace hbM:=Aside0.mk hbM
      clear hE hM
      go_wp2_with (fail)
      refine (hA.out _ (by repeat (first | with_reducible exact hw5 | refine Below.setCell ?_ (by have:=hw5.size; simp <;> omega) _ | refine Below.alloc ?_ (by have:=hw5.size; simp <;> omega) _ | refine Below.drew ?_))).mono ?_
      rintro e w6 ⟨S,rfl,hb6,hS,-⟩
      clear pc0 pc1 pc2 pc3 pc4 pc5 pc6
      have hs6 : Below w5.heap.size w5 w6:=two_steps (by repeat (first | exact Below.refl _ _ | refine Below.setCell ?_ (by simp <;> omega) _ | refine Below.alloc ?_ (by simp <;> omega) _ | refine Below.drew ?_)) hb6
      have hw6 : Below w.heap.size w w6:=hw5.trans (hs6.mono hw5.size)
      have xp:=blk_below xp hs6
      replace hS:=Aside0.mk hS
      clear hb6
      obtain ⟨pc0,pc1,pc2,pc3,pc4,pc5,pc6⟩:=cells7 xp
      obtain ⟨ad',X1,d1,he',rx,q0,q1,q2,q3⟩:=ent_at (Kd.C_below hr.out hw6) i hlt rfl
      injection he' with he'
      subst he'
      rw [hxe.out] at rx q0 q1 q2 q3
      clear q0 q3
      replace rx:=Aside0.mk rx
      by_cases hk2 : x.f1 = 2
      ·have hkb : (x.f1 != 2) = false:=by rw [hk2]; rfl
       have hl2:=Aside0.mk (fun h2 => hll.out.2.1 hk2 h2)
       have hl3:=Aside0.mk (fun y h2 => hll.out.2.2 hk2 y h2)
       replace hk2:=Aside0.mk hk2
       clear hll
       obtain ⟨r,hr2⟩ : ∃ r,hunkV x.f2 p.f4 p.f5 p.f6 = r:=⟨_,rfl⟩
       have hH:=hunkR_at x.f2 p.f5 p.f6 X1 d1 k0 A5 a5 A6 a6 w6.drew (Kd.C_below rx.out.g (below_drew (Below.refl _ _))) rx.out.l (Kd.C_below rp.out.g5 (below_drew hw6)) rp.out.l5 (Kd.C_below rp.out.g6 (below_drew hw6)) rp.out.l6 (by have:=hrg.out.2; have:=hk0.out; omega) (by have:=hxs.out.n; omega) (by have : p.f5.length < 4000:=hqs.out.n5; omega) (by have : p.f6.length < 4000:=hqs.out.n6; omega)
       rw [← hk0.out,hr2] at hH
       replace hr2:=Aside0.mk hr2
       cases r with
       | none =>
        have h81:=hl2.out hr2.out
        subst h81
        go_upto_region 14 with (fail)
        go_region_held3 (fun U => U.cell? ⟨(ad.add (i * 4)).block,(ad.add (i * 4)).off + 2,none⟩ = some (.slice X1 x.f2.length d1) ∧ U.cell? ⟨w.heap.size,4,none⟩ = some (.int .i64 p.f4) ∧ U.cell? ⟨w.heap.size,5,none⟩ = some (.slice A5 p.f5.length a5) ∧ U.cell? ⟨w.heap.size,6,none⟩ = some (.slice A6 p.f6.length a6)) (first | exact ⟨q2,pc4,pc5,pc6⟩ | exact ⟨pw_cell_below hb q2,pw_cell_below hb pc4,pw_cell_below hb pc5,pw_cell_below hb pc6⟩) ((go_at_call 37; refine hH.mono ?_; rintro e y0 ⟨hb,Y,d2,rfl,hM⟩))
        all_goals
         clear pc0 pc1 pc2 pc3 pc4 pc5 pc6
         clear q1 q2
         have hfin:=Aside0.mk (hw6.drew.trans (hb.mono hw6.drew.size))
         go_wp2
         go_ret
         exact ⟨rfl,hfin.out⟩
       | some y =>
        obtain ⟨hE0,hMe⟩:=hl3.out y hr2.out
        subst hE0
        obtain ⟨A4,c4,hSe,hl4,hC4⟩:=hS.out (by trivial)
        replace hbM:=Aside0.mk (hbM.out (by trivial))
        have hlen : M.length = l.length:=by rw [hMe,List.length_set]
        rw [hlen] at hSe hl4
        rw [hlen] at hC4
        subst hSe
        replace hl4:=Aside0.mk hl4
        replace hC4:=Aside0.mk hC4
        replace hlen:=Aside0.mk hlen
        replace hMe:=Aside0.mk hMe
        clear hl2 hl3 hS
        go_upto_region 14 with (fail)
        go_region_held3 (fun U => U.cell? ⟨(ad.add (i * 4)).block,(ad.add (i * 4)).off + 2,none⟩ = some (.slice X1 x.f2.length d1) ∧ U.cell? ⟨w.heap.size,4,none⟩ = some (.int .i64 p.f4) ∧ U.cell? ⟨w.heap.size,5,none⟩ = some (.slice A5 p.f5.length a5) ∧ U.cell? ⟨w.heap.size,6,none⟩ = some (.slice A6 p.f6.length a6)) (first | exact ⟨q2,pc4,pc5,pc6⟩ | exact ⟨pw_cell_below hb q2,pw_cell_below hb pc4,pw_cell_below hb pc5,pw_cell_below hb pc6⟩) ((go_at_call 37; refine hH.mono ?_; rintro e y0 ⟨hb,Y,d2,rfl,hM⟩))
        all_goals
         clear q1 q2
         obtain ⟨hYl,hYC⟩:=hM y rfl
         clear hM
         replace hYl:=Aside0.mk hYl
         replace hYC:=Aside0.mk hYC
         have hk5 : Below w6.heap.size w6 y0:=(below_drew (Below.refl w6.heap.size w6)).trans (hb.mono (below_drew (Below.refl w6.heap.size w6)).size)
         clear pc0 pc1 pc2 pc3 pc4 pc5 pc6
         have hs7 : Below w6.heap.size w6 y0:=hk5
         have hw7 : Below w.heap.size w y0:=hw6.trans (hs7.mono hw6.size)
         have xp:=blk_below xp hs7
         obtain ⟨pc0,pc1,pc2,pc3,pc4,pc5,pc6⟩:=cells7 xp
         clear pc0 pc1 pc2 pc3 pc4 pc5 pc6
         have hL : Aside0 (Below y0.heap.size y0 (y0.alloc (.cells #[] 41))):=⟨below_alloc (Below.refl _ _) _⟩
         have hN0:=Aside0.mk (lit0E y0)
         have FA : Aside0 (Kd.F k41 y0 (fun k => k < y0.heap.size) (some ad) l.length l):=⟨Kd.C_F k41_heap (Kd.C_below hr.out hw7)⟩
         have ok0 : Aside0 (∀ k,k < y0.heap.size → True ∧ some k ≠ (Value.slice (some ⟨y0.heap.size,0,none⟩) 0 0).ownBlock):=⟨fun k hk => ⟨trivial,fun e => by simp [Value.ownBlock] at e; omega⟩⟩
         go_upto_region 18 with (((with_reducible refine gate_builtin (b:=.append) (xs:=#[.tmp 90,.tmp 91]) rfl ?_); at_builtin; refine Kd.N_append_rows k41 (w0:=y0) y0.heap.size rfl (.tmp 90) (.tmp 91) 22 41 (.agg #[(.string ⟨#[]⟩),(.int .i64 0),(.slice none 0 0),(.string ⟨#[]⟩)]) 64 rfl Tryz.underlying22 info41 rfl (by decide) (by omega) (.slice (some ⟨y0.heap.size,0,none⟩) 0 0) [] l (some ad) l.length c (fun _ => True) (fun k => k < y0.heap.size) rfl rfl ?aO ?aR ?aP (fun _ _ => trivial) ?aB ?aS ?aL ?_; (case aO => exact hN0.out); (case aR => exact Kd.F_below FA.out hL.out); (case aP => exact ok0.out); (case aB => exact hL.out); (case aS => exact (hL.out).size); (case aL => have:=hsm.out.1; simp; omega); intro v1 y1 hN1 hB1 hg_ hat_; replace hN1:=Aside0.mk hN1; replace hB1:=Aside0.mk hB1; clear hg_ hat_))
         rw [List.nil_append] at hN1
         clear hL hN0 FA ok0
         obtain ⟨gw,cap,rfl,hgb,hgl,gcs,hgc⟩:=Kd.N_form hN1.out hpos
         have hff:=blk_frozen hgc (i * 4 + 2)
         obtain ⟨cs,hcl,hFK,hcc,-⟩:=Kd.N_elem hN1.out z41 (i : Int) i0 i1
         rw [Int.toNat_natCast] at hFK hcc
         rw [hxe.out] at hFK
         obtain ⟨A2,c2,rfl,hc2,-⟩:=k41_openF hFK
         have hc9 : y1.cell? ⟨gw,i * 4 + 2,none⟩ = some (.slice A2 x.f2.length c2):=hcc 2 _ rfl
         have hseg:=(Kd.N_seg hN1.out (i : Int) i0 i1 (c:=[.string x.f0,.int .i64 x.f1,.slice A2 x.f2.length c2,.string x.f3]) (j:=2) (seg:=[.slice Y y.length d2]) (okp:=fun k => k < y0.heap.size) (x':={ x with f2:=y }) rfl (by rw [Int.toNat_natCast]; exact hcc) (by show 2 + 1 ≤ 4; decide) (k41_mkF y1 _ { x with f2:=y } hYl.out (Kd.F_below (Kd.C_F Kd.heap_string hYC.out) hB1.out)) (fun k hk => ⟨trivial,by omega⟩)).1
         rw [Int.toNat_natCast,← hMe.out] at hseg
         have hsc : y1.setCells gw (i * k41.sz + 2) [.slice Y y.length d2] = y1.setCell ⟨gw,i * 4 + 2,none⟩ (.slice Y y.length d2):=rfl
         rw [hsc] at hseg
         have hv9 : Below y0.heap.size y0 (y1.setCell ⟨gw,i * 4 + 2,none⟩ (.slice Y y.length d2)):=Below.setCell (p:=⟨gw,i * 4 + 2,none⟩) hB1.out hgb _
         generalize hV : y1.setCell ⟨gw,i * 4 + 2,none⟩ (.slice Y y.length d2) = u9 at hseg hv9
         clear hFK hcc hN1 hgl hsc
         replace hgb:=Aside0.mk hgb
         go_upto_region 19 with (fail)
         try rw [hV]
         clear hV hff hgc hB1 hc9
         have hRW:=Kd.N_reads' hseg
         have hSm:=sameE_at M (by rw [hlen.out]; exact hn.out) (fun z hz => Nat.le_trans (hbM.out.n z hz) (by decide)) A4 c4 (some ⟨gw,0,none⟩) cap u9 (by rw [hlen.out]; exact Kd.C_below hC4.out (hs7.trans (hv9.mono hs7.size))) (by rw [hlen.out]; exact hl4.out) (by exact hRW.2.2) (by rw [hlen.out]; exact hRW.2.1)
         rw [hlen.out] at hSm
         have hfin:=Aside0.mk (hw7.trans (hv9.mono hw7.size))
         clear hRW hseg hv9
         go_wp2_with (fail)
         refine hSm.mono ?_
         rintro e u10 ⟨rfl,hb10⟩
         have hfin2:=Aside0.mk (hfin.out.trans (hb10.mono hfin.out.size))
         clear hb10 hfin
         go_wp2
         go_ret
         exact ⟨rfl,hfin2.out⟩
      ·have hkb : (x.f1 != 2) = true:=by rw [bne_iff_ne]; exact hk2
       have h73:=hll.out.1 hk2
       subst h73
       clear hk2 hll
       go_wp2
       go_ret
       exact ⟨rfl,(by repeat (first | with_reducible exact hw6 | refine Below.setCell ?_ (by have:=hw6.size; simp <;> omega) _ | refine Below.alloc ?_ (by have:=hw6.size; simp <;> omega) _ | refine Below.drew ?_))⟩
end Go.Proofs.YthhohbidjhcjeaaGreatDoor.H
namespace Go.Proofs.YthhohbidjhcjeaaGreatDoor.RPrimLines
open Go.ChangeShapes Go.WideShapes Go.ChangeAt Go.RowKit Go.Proofs.YthhohbidjhcjeaaGreatDoorW.PrintWords Go.Proofs.YthhohbidjhcjeaaGreatDoorW.PrintMore Go.Proofs.YthhohbidjhcjeaaGreatDoor.Q Go.Proofs.YthhohbidjhcjeaaGreatDoor.Op Go.Proofs.YthhohbidjhcjeaaGreatDoor.Pl Go.Proofs.YthhohbidjhcjeaaGreatDoor.Od
set_option maxRecDepth 100000 in
theorem lifted (os : Os) (started : os.Started) (H : Type) (enc : TypeId × Value → H) :
  ReturnsInHanded {} Tryz.checked os 8 .any (fun w args => (Rows.primLinesSpec.pre enc Tryz.prog Tryz.f8 [] false w args ∧ laidMetH Tryz.prog laidTabs w) ∧ sizedMet enc Tryz.prog Tryz.f8 (OpenSpec.ofChange Rows.primLinesSpec) false w args)
   (Rows.primLinesSpec.post enc Tryz.prog Tryz.f8 false true false false):=by
 refine returnsInHanded_of_change_and (C:=Tryz.checked) (X:=fun w _ => laidMetH Tryz.prog laidTabs w) (fun _ _ _ hh h => h.of_heap hh) own started (by kernel_rfl) Tryz.func8
  (ChangeSpec.witness_shaped (enc:=enc) (C:=Tryz.checked) (os:=os) (X:=fun w _ => laidMetH Tryz.prog laidTabs w) false (World.laidAll Tryz.prog os laidTabs) #[.slice none 0 0,.int .u8 0,.agg #[.int .i64 0,.string ByteArray.empty,.string ByteArray.empty,.string ByteArray.empty,.int .i64 0,.slice none 0 0,.slice none 0 0]] 8 (World.laidAll_os _ _ _)
   (World.shaped_of_ZipB (by kernel_rfl) (by kernel_rfl)) (by kernel_rfl) (by kernel_rfl) (by kernel_rfl)
   (by rw [MakeChecks.laidMetH_plain _ _ _ (by kernel_rfl)]; exact laidMet_laidAll _ (by kernel_rfl) (by kernel_rfl))) ?_
 intro W base args ds gs before hval0 hW _ hsz0 hL _
 have hsz : (DataW.weightsEach Tryz.prog (Tryz.f8.params.toList ++ Rows.primLinesSpec.plain.varTypes Tryz.prog) (ds ++ gs)).all (· ≤ reachBytes) = true:=hsz0
 have hval : ∀ (j : Nat) t v,Tryz.f8.params[j]? = some t → args[j]? = some v → Value.okWide Tryz.prog W .any base t v:=hval0
 have hW':=hW
 obtain ⟨p,q,hA0,hV,rfl,hfz,hnd⟩:=hW
 have hA : DataW.TrodAll enc Tryz.prog W 0 (fun _ => true) true Tryz.f8.params.toList args.toList ds p:=hA0
 rw [Tryz.params8] at hA hval hsz
 obtain ⟨v0,vs0,d0,ds0,p0,q0,hargs,rfl,rfl,h0,r0⟩:=trodAll_cons hA
 obtain ⟨v1,vs1,d1,ds1,p1,q1,rfl,rfl,rfl,h1,r1⟩:=trodAll_cons r0
 obtain ⟨v2,vs2,d2,ds2,p2,q2,rfl,rfl,rfl,h2,r2⟩:=trodAll_cons r1
 obtain ⟨rfl,rfl,rfl⟩:=trodAll_nil r2
 obtain rfl : args = #[v0,v1,v2]:=by cases args; simp_all
 obtain ⟨rfl,rfl⟩:=trodVars_none hV
 have k0:=h0
 have lt0 : ∀ x ∈ p0,x.block < W.heap.size:=by obtain ⟨m,hm⟩:=k0; exact DataW.trod_lt m _ _ _ hm
 obtain ⟨x0,hK0,hG0⟩:=opened o22 h0 hsz (j:=0) rfl rfl
 obtain ⟨B0,u0,hc0,lu0,g0⟩:=hK0
 obtain ⟨b0,n0,m0,rfl⟩:=okWide_slice Tryz.underlying22 (hval 0 22 v0 rfl rfl)
 obtain ⟨rfl,rfl,rfl⟩ : b0 = B0 ∧ n0 = x0.length ∧ m0 = u0:=by simpa [Value.cells] using hc0
 obtain ⟨_,hb0,hg0⟩:=hG0
 have k1:=h1
 have lt1 : ∀ x ∈ p1,x.block < W.heap.size:=by obtain ⟨m,hm⟩:=k1; exact DataW.trod_lt m _ _ _ hm
 obtain ⟨x1,hK1,hG1⟩:=opened o5 h1 hsz (j:=1) rfl rfl
 obtain ⟨n1,rfl⟩:=okWide_int Tryz.underlying5 (hval 1 5 v1 rfl rfl)
 obtain rfl : x1 = n1:=by have h_ : [Value.int .u8 n1] = [Value.int .u8 x1]:=hK1; simpa using h_.symm
 have hx1 : 0 ≤ x1 ∧ x1 ≤ 255:=by simpa [Lit.wf,IntKind.min,IntKind.max,IntKind.signed,IntKind.bits] using hG1
 have k2:=h2
 have lt2 : ∀ x ∈ p2,x.block < W.heap.size:=by obtain ⟨m,hm⟩:=k2; exact DataW.trod_lt m _ _ _ hm
 obtain ⟨x2,hK2,hG2⟩:=opened o25 h2 hsz (j:=2) rfl rfl
 obtain ⟨c2,rfl,_⟩:=okWide_struct Tryz.underlying25 (hval 2 25 v2 rfl rfl)
 obtain ⟨A25,c25,A26,c26,hc2,l25,g25,l26,g26⟩:=k25_open hK2
 obtain rfl : c2 = #[.int .i64 x2.f0,.string x2.f1,.string x2.f2,.string x2.f3,.int .i64 x2.f4,.slice A25 x2.f5.length c25,.slice A26 x2.f6.length c26]:=by rw [← Array.toList_inj]; exact hc2
 clear hA0 hval0 hsz0 hsz
 refine (Go.Proofs.YthhohbidjhcjeaaGreatDoor.H.plines_calls x0 b0 m0 x1 x2 A25 c25 A26 c26 W g0 lu0 (by omega) (fun x hx => (hg0 x hx).n) hG2 ⟨g25,l25,g26,l26⟩ hx1.1 hx1.2).mono fun e W' ⟨he,bel⟩ => ?_
 subst he
 exact ⟨_,rfl,_,_,_,[],_,[],hW',trodAll_mk1 (shut_bool Tryz.underlying4 _),(trodAll_cons_mk (Below.trod laidOut (by kernel_rfl) (of_decide_eq_true (by kernel_rfl)) k0 bel lt0) (trodAll_cons_mk (Below.trod laidOut (by kernel_rfl) (of_decide_eq_true (by kernel_rfl)) k1 bel lt1) (trodAll_cons_mk (Below.trod laidOut (by kernel_rfl) (of_decide_eq_true (by kernel_rfl)) k2 bel lt2) trodAll_mk0))),rfl,bel.frame _,fun h => by cases h⟩
theorem band {a b : Bool} (ha : a = true) (hb : b = true) : (a && b) = true:=by rw [ha,hb]; rfl
set_option maxHeartbeats 4000000 in
theorem facts : joinedFacts Tryz.prog 8 Tryz.f8 Rows.primLinesSpec Rows.primLinesRow = true:=by
 unfold joinedFacts
 repeat' (with_reducible refine band ?_ ?_)
 all_goals (first | (with_reducible exact heads.1) | (rw [heads.2.1]; rfl) | (rw [heads.2.2.1]; rfl) | (as_aux_lemma => kernel_rfl))
set_option maxHeartbeats 4000000 in
theorem over : Rows.primLinesRow.holds Tryz.pinned (OpenSpec.ofChange Rows.primLinesSpec) :=
 OpenClaim.holds_of_wide 8 Tryz.f8 rfl rfl rfl rfl rfl rfl rfl ⟨rfl,rfl,rfl,rfl,rfl⟩ rfl rfl rfl rfl rfl (by as_aux_lemma => kernel_rfl) Tryz.func8 facts
  (of_decide_eq_true (by as_aux_lemma => kernel_rfl)) (by unfold Func.isWrapper; first | (rw [if_pos (by decide +kernel)]; kernel_rfl) | (rw [if_neg (by decide +kernel)]; exact ⟨rfl,rfl⟩))
  (fun os started H enc _ => lifted os started H enc)
set_option maxHeartbeats 4000000 in
theorem card : Rows.PrimLinesCardSaid :=
 Claim7.holds_tied_plain_at .later [] [.data, .pinned] true (true, "b2c3b2d2b50221d5631762a848752805bff427337fd1c8fab364110e20b5edb9") false over (fun _ h => by cases h) (by as_aux_lemma => kernel_rfl) (fun _ h => by cases h) primLines_row_tie rfl ⟨rfl, rfl⟩ heads.2.2.2 rfl
  (fun f fn hf hfn => by
   obtain rfl : f = 8:=Option.some.inj ((show Tryz.prog.funcNamed Rows.primLinesRow.func = some 8 by as_aux_lemma => kernel_rfl).symm.trans hf) |>.symm
   obtain rfl : fn = Tryz.f8:=(Option.some.inj (Tryz.func8.symm.trans hfn)).symm
   exact ⟨by as_aux_lemma => kernel_rfl,fun j t ht => by
    rw [Tryz.params8] at ht
    have hm : t ∈ [22,5,25]:=by simpa using Array.mem_of_getElem? ht
    have hall : ([22,5,25].all fun u => !Tryz.prog.wantsStandIn u) = true:=by as_aux_lemma => kernel_rfl
    exact (show Tryz.prog.wantsStandIn t = false by simpa using List.all_eq_true.1 hall t hm)⟩)
  (by as_aux_lemma => kernel_rfl)
end Go.Proofs.YthhohbidjhcjeaaGreatDoor.RPrimLines
namespace Go.Proofs.YthhohbidjhcjeaaGreatDoor
/-- The card of PrimLines. -/
theorem PrimLines_card : Rows.PrimLinesCardSaid:=RPrimLines.card
#print axioms PrimLines_card
end Go.Proofs.YthhohbidjhcjeaaGreatDoor
