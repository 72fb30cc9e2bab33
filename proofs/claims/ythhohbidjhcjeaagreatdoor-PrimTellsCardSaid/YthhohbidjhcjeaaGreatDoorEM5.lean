/- tree.Right: may things be a tree? -/
import Derived.Test.YthhohbidjhcjeaaGreatDoorEM4
import Derived.Maps.Own
import Derived.Maps.OwnOps
import Derived.Maps.Views
import Derived.Shelf.SlSorted.Search
import Derived.Test.YthhohbidjhcjeaaGreatDoorEM2
import Derived.Deep.WholeRow
import Derived.Test.YthhohbidjhcjeaaGreatDoorEM1
import Derived.RangeFuncNested
import Derived.RangeFuncBound
import Derived.RangeFuncCalls
import Derived.RangeFuncLeaves
import Derived.Shelf.Abstract
import Derived.Shelf.RegionOpen
import Derived.WalkKit
import Derived.OwnWalkIn
import Derived.TacticsInMore
import Derived.LoopNIn
import Derived.LoopIn
import Derived.Outline
import Derived.Lib.Hide
import Derived.Maps.OwnIn
import Derived.RegionIn
import Derived.Deep.RegionWith
namespace Go.Proofs.YthhohbidjhcjeaaGreatDoor.H
open Go.RowKit Go.Shelf Go.Proofs.YthhohbidjhcjeaaGreatDoorW.PrintWords Go.Proofs.YthhohbidjhcjeaaGreatDoorW.PrintLast Go.Proofs.YthhohbidjhcjeaaGreatDoorW.PrintMore
open Go.Proofs.YthhohbidjhcjeaaGreatDoor.Q Go.Proofs.YthhohbidjhcjeaaGreatDoor.Pl
set_option linter.unusedVariables false
set_option linter.unusedSimpArgs false
def MapI (W : World) (b n : Nat) (f : ByteArray → Int) : Prop :=
 ∃ D : DataW Unit,W.ownsMap Tryz.prog 9 (plainElem Tryz.prog 3) b n D ∧ Go.Maps.IsMap D ∧ ∀ s : ByteArray,s.size ≤ maxLen → D.atKey (.string s.data.toList) (.lit (.int .i64 0)) = .lit (.int .i64 (f s))
theorem MapI.made (w : World) : MapI (w.alloc (.map #[] 0)) w.heap.size 0 (fun _ => 0):=⟨.map [],World.ownsMap_made w _ _ _,⟨_,rfl⟩,fun s _ => rfl⟩
theorem MapI.mono {W : World} {b n n' : Nat} {f : ByteArray → Int} (h : MapI W b n f) (hn : n ≤ n') : MapI W b n' f:=by
 obtain ⟨D,ho,hm,hf⟩:=h
 exact ⟨D,ho.mono hn,hm,hf⟩
theorem MapI.later {W W' : World} {b n : Nat} {f : ByteArray → Int} (h : MapI W b n f) (hb : Below W.heap.size W W') : MapI W' b n f:=by
 obtain ⟨D,ho,hm,hf⟩:=h
 obtain ⟨es,clock,hbk,F,hs,hD⟩:=ho
 exact ⟨D,⟨es,clock,(hb.block b (Array.getElem?_eq_some_iff.1 hbk).1).trans hbk,F,hs,hD⟩,hm,hf⟩
theorem keyS {s : ByteArray} (hs : s.size ≤ maxLen) : keyOf Tryz.prog 9 (.string s) = some (.string s.data.toList):=Go.WideMaps.keyOf_string_mk Tryz.underlying9 hs
set_option maxRecDepth 100000 in
theorem MapI.lookup {W : World} {b n : Nat} {f : ByteArray → Int} (h : MapI W b n f) (s : ByteArray) (hs : s.size ≤ maxLen) : (Instr.lookup 108 (.map (some b)) (.string s) false).run Tryz.prog W = .ok (.int .i64 (f s)) W:=by
 obtain ⟨D,ho,hm,hf⟩:=h
 obtain ⟨c,hrun,hat,_⟩:=ho.lookup_int (Go.Maps.string_keyed Tryz.underlying9) Tryz.underlying108 Tryz.underlying3 (Tryz.zeroValue3 W) (keyS hs)
 rw [hf s hs] at hat
 injection hat with hat
 injection hat with h1 h2
 rw [h2]; exact hrun
set_option maxRecDepth 100000 in
theorem MapI.update {W : World} {b n : Nat} {f : ByteArray → Int} (h : MapI W b n f) (s : ByteArray) (hs : s.size ≤ maxLen) (v : Int) (hv : (Lit.int .i64 v).wf = true) (hn : n < maxLen) :
  ∃ w',(Instr.mapUpdate 108 (.map (some b)) (.string s) (.int .i64 v)).run Tryz.prog W = .ok () w' ∧ MapI w' b (n + 1) (fun t => if t = s then v else f t) ∧ W.grownBy w' (some b):=by
 obtain ⟨D,ho,hm,hf⟩:=h
 obtain ⟨w',hrun,ho',hg⟩:=ho.update (Go.Maps.string_keyed Tryz.underlying9) Tryz.underlying108 hn (keyS hs) (plainElem_int Tryz.underlying3 hv)
 refine ⟨w',hrun,⟨_,ho',hm.put _ _,fun t ht => ?_⟩,hg⟩
 show _ = DataW.lit (Lit.int .i64 (if t = s then v else f t))
 by_cases e : t = s
 ·subst e
  rw [if_pos rfl,Go.Maps.atKey_put_same hm (by trivial)]
 ·rw [if_neg e,Go.Maps.atKey_put_other (fun k => e (data_inj (by injection k))),hf t ht]
def cntD (l : List S41) (p : ByteArray) : Int:=((l.filter (fun x => decide (x.f0 = p) && decide (x.f1 = 1))).length : Nat)
theorem cntD_le (l : List S41) (p : ByteArray) : 0 ≤ cntD l p ∧ cntD l p ≤ l.length:=by
 unfold cntD
 have:=List.length_filter_le (fun x : S41 => decide (x.f0 = p) && decide (x.f1 = 1)) l
 omega
theorem cntD_zero (l : List S41) (p : ByteArray) : (cntD l p == 0) = !dirB l p:=by
 rw [Bool.eq_iff_iff]
 unfold cntD dirB
 simp only [beq_iff_eq,Bool.not_eq_true',List.any_eq_false]
 constructor
 ·intro h x hx k
  have h1 : (l.filter (fun x => decide (x.f0 = p) && decide (x.f1 = 1))).length = 0:=by omega
  have h2:=List.length_eq_zero_iff.mp h1
  have h3 : x ∈ l.filter (fun x => decide (x.f0 = p) && decide (x.f1 = 1)):=List.mem_filter.mpr ⟨hx,k⟩
  rw [h2] at h3; cases h3
 ·intro h
  have : l.filter (fun x => decide (x.f0 = p) && decide (x.f1 = 1)) = []:=List.filter_eq_nil_iff.mpr fun x hx => h x hx
  rw [this]; rfl
theorem cntD_snoc (l : List S41) (x : S41) (p : ByteArray) : cntD (l ++ [x]) p = if p = x.f0 ∧ x.f1 = 1 then cntD l x.f0 + 1 else cntD l p:=by
 unfold cntD
 rw [List.filter_append,List.length_append]
 by_cases h : p = x.f0 ∧ x.f1 = 1
 ·rw [if_pos h]
  obtain ⟨rfl,h1⟩:=h
  simp [h1]
 ·rw [if_neg h]
  have : [x].filter (fun x => decide (x.f0 = p) && decide (x.f1 = 1)) = []:=by
   rw [List.filter_eq_nil_iff]
   intro y hy
   rw [List.mem_singleton] at hy
   subst hy
   simp only [Bool.and_eq_true,decide_eq_true_eq]
   intro k
   exact h ⟨k.1.symm,k.2⟩
  rw [this]; simp
theorem steps_app : ∀ (r1 l r2 : List S41),stepsB l (r1 ++ r2) = (stepsB l r1 && stepsB (l ++ r1) r2)
 | [],l,r2 => by simp [stepsB]
 | x :: r1,l,r2 => by
  show (nextB l x && stepsB (l ++ [x]) (r1 ++ r2)) = ((nextB l x && stepsB (l ++ [x]) r1) && _)
  rw [steps_app r1,Bool.and_assoc,List.append_assoc]
  rfl
theorem steps_take {l : List S41} {i : Nat} (h : i < l.length) : stepsB [] (l.take (i + 1)) = (stepsB [] (l.take i) && nextB (l.take i) l[i]):=by
 rw [List.take_succ_eq_append_getElem h,steps_app]
 simp [stepsB]
theorem steps_false {l : List S41} {i : Nat} (h : stepsB [] (l.take i) = false) : stepsB [] l = false:=by
 rw [← List.take_append_drop i l,steps_app,h,Bool.false_and]
theorem next_first (x : S41) : nextB [] x = (thingB x && (match parentV x.f0 with | none => true | some p => dirB [] p)):=by
 unfold nextB
 simp only [List.getLast?_nil,Bool.and_true]
 rfl
theorem next_later (l : List S41) (i : Nat) (hi : 0 < i) (h : i ≤ l.length) (x : S41) : nextB (l.take i) x = (thingB x && ltP (l.getD (i - 1) z41).f0 x.f0 && (match parentV x.f0 with | none => true | some p => dirB (l.take i) p)):=by
 have hl : (l.take i).getLast? = some (l.getD (i - 1) z41):=by
  rw [List.getLast?_eq_getElem?,List.length_take,Nat.min_eq_left h,List.getElem?_take,if_pos (by omega),getD_get (by omega),List.getElem?_eq_getElem (by omega)]
 unfold nextB
 rw [hl]
 rfl

set_option maxHeartbeats 16000000 in
set_option maxRecDepth 1000000 in
theorem tree_at (l : List S41) (A : Option Addr) (c : Nat) (w : World) (hr : Kd.C k41 w A l.length l) (hp : ∀ x ∈ l,x.f0.size ≤ 1000000000000) :
  Calls Tryz.prog 51 #[.slice A l.length c] w fun e w' => e = .returned (.bool (treeB l)) ∧ Below w.heap.size w w':=by
 have HR:=Aside0.mk hr
 have HP:=Aside0.mk hp
 have hn63 : l.length ≤ 9223372036854775807:=hr.2.1
 clear hr hp
 by_cases hbig : l.length ≤ 1024
 ·have hb1 : decide ((1024 : Int) < (l.length : Int)) = false:=decide_eq_false (by omega)
  have ht : treeB l = stepsB [] l:=by unfold treeB; rw [decide_eq_true hbig,Bool.true_and]
  rw [ht]
  clear ht
  obtain ⟨T,hT⟩ : ∃ T,stepsB [] l = T:=⟨_,rfl⟩
  rw [hT]
  have HT:=Aside0.mk hT
  have M0 : Aside0 (MapI (w.alloc (.map #[] 0)) w.heap.size 0 (cntD (l.take 0))):=⟨by
   have h : cntD (l.take 0) = fun _ => 0:=by funext s; rfl
   rw [h]; exact MapI.made w⟩
  have B0 : Aside0 (Below w.heap.size w (w.alloc (.map #[] 0))):=⟨below_alloc (Below.refl _ _) _⟩
  have S0 : Aside0 (stepsB [] (l.take 0) = true):=⟨rfl⟩
  clear hT
  have hmk : ∀ W,(Instr.makeMap 108 none).run Tryz.prog W = .ok (.map (some W.heap.size)) (W.alloc (.map #[] 0)):=fun W => run_makeMap 108 W
  go_enter Tryz.func51,Tryz.ntmps51
  go_wp2
  go_loopg [14] l.length (fun kx s14 wr => ∃ i : Nat,s14 = .int .i64 i ∧ i + kx = l.length ∧ Aside0 (Below w.heap.size w wr) ∧ Aside0 (MapI wr w.heap.size i (cntD (l.take i))) ∧ Aside0 (stepsB [] (l.take i) = true))
  case atStart => exact ⟨0,rfl,by omega,B0,M0,S0⟩
  case round =>
   clear B0 M0 S0
   obtain ⟨i,rfl,hi,B1,M1,S1⟩:=hrel
   by_cases hlt : i < l.length
   ·have hi0 : (0 : Int) ≤ (i : Int):=by omega
    have hi1 : (i : Int) < (l.length : Int):=by omega
    have hdb : decide ((i : Int) < (l.length : Int)) = true:=decide_eq_true hi1
    obtain ⟨ad,X,d,rfl,rx,c0,c1,c2,c3⟩:=ent_at (Kd.C_below HR.out B1.out) i hlt rfl
    obtain ⟨x,hx⟩ : ∃ x,l.getD i z41 = x:=⟨_,rfl⟩
    rw [hx] at rx c0 c1 c2 c3
    have hxi : l[i] = x:=by rw [← hx,getD_get hlt]
    have HXI:=Aside0.mk hxi
    have hsz : x.f0.size ≤ 1000000000000:=HP.out x (by rw [← hxi]; exact List.getElem_mem hlt)
    have hst:=steps_take hlt
    rw [hxi,S1.out,Bool.true_and] at hst
    have HST:=Aside0.mk hst
    have HSZ:=Aside0.mk hsz
    have hPar:=fun W => parent_calls x.f0 W hsz
    obtain ⟨up,hup⟩ : ∃ up,parentV x.f0 = up:=⟨_,rfl⟩
    have HPV:=Aside0.mk hup
    rw [hup] at hPar
    have RX:=Aside0.mk rx
    have HB2 : Aside0 (Below w.heap.size w (wr.alloc (.cells #[.string x.f0,.int .i64 x.f1,.slice X x.f2.length d,.string x.f3] 41))):=⟨below_alloc B1.out _⟩
    have HXB : Aside0 ((wr.alloc (.cells #[.string x.f0,.int .i64 x.f1,.slice X x.f2.length d,.string x.f3] 41)).heap[wr.heap.size]? = some (.cells #[.string x.f0,.int .i64 x.f1,.slice X x.f2.length d,.string x.f3] 41 (0,0))):=⟨blk_new _ _⟩
    obtain ⟨k0,k1,k2,k3⟩:=cells4 HXB.out
    clear hx hxi hst rx hsz hup
    go_upto_region 8 with (go_at_call 89; refine (hPar _).mono ?_; rintro e w' ⟨rfl,rfl⟩)
    generalize hwr2 : wr.alloc (.cells #[.string x.f0,.int .i64 x.f1,.slice X x.f2.length d,.string x.f3] 41) = wr2 at HB2 HXB k0 k1 k2 k3 ⊢
    have HMI : Aside0 (MapI wr2 w.heap.size i (cntD (l.take i))):=⟨M1.out.later (by rw [← hwr2]; exact below_alloc (Below.refl _ _) _)⟩
    have hw2b : Below wr.heap.size wr wr2:=by rw [← hwr2]; exact below_alloc (Below.refl _ _) _
    have hTh : ∀ W,Below wr2.drew.heap.size wr2.drew W → Calls Tryz.prog 90 #[.agg #[.string x.f0,.int .i64 x.f1,.slice X x.f2.length d,.string x.f3]] W fun e w' => e = .returned (.bool (thingB x)) ∧ Below W.heap.size W w':=fun W hb => thing_at x X d W (RX.out.later ((hw2b.trans ((below_drew (Below.refl _ _)).mono hw2b.size)).trans (hb.mono hw2b.size))) (Nat.le_trans HSZ.out (by decide))
    have HW2B:=Aside0.mk hw2b
    obtain ⟨th,hth⟩ : ∃ th,thingB x = th:=⟨_,rfl⟩
    rw [hth] at hTh
    have HTH:=Aside0.mk hth
    clear hwr2 hw2b hth k0 k1 k2 k3 c0 c1 c2 c3 hPar
    cases th with
    | false =>
     have hno : Aside0 (T = false):=⟨by
      rw [← HT.out]
      refine steps_false (i:=i + 1) ?_
      rw [HST.out]
      unfold nextB
      rw [HTH.out,Bool.false_and,Bool.false_and]⟩
     refine wp_region_held_drew (S:=Below wr2.drew.heap.size wr2.drew) (by kernel_rfl) (Below.refl _ _) (fun hS => ?_)
     refine' tkE 0 25 hS ?_ ?_; rotate_left
     ·intro W' hSW; obtain ⟨k0,k1,k2,k3⟩:=cells4 (blk_below (blk_drew HXB.out) hSW); go_simp; (try with_reducible rfl)
     simp only [Act.put,List.setIfInBounds_toArray,List.set_cons_zero,List.set_cons_succ]
     refine wpAnyH_ready (rs:=[1]) (by kernel_rfl) (by simp) (AllReadyH.cons rfl (fun K hK => ?_) AllReadyH.nil)
     go_simp
     refine (hTh _ hS).mono ?_
     rintro e W2 ⟨rfl,hb⟩
     have hS:=hS.trans (hb.mono hS.size)
     clear hb
     refine hK.out _ _ hS (fun _ => ?_)
     clear hK K
     refine' tkE 2 27 hS ?_ ?_; rotate_left
     ·intro W' hSW; go_simp; (try with_reducible rfl)
     refine' tkE 3 28 hS ?_ ?_; rotate_left
     ·intro W' hSW; go_simp; (try with_reducible rfl)
     simp only [Act.put,List.setIfInBounds_toArray,List.set_cons_zero,List.set_cons_succ]
     refine tkUs (fun _ _ _ _ h => h) hS [(4,29),(5,30),(6,31),(7,32),(8,33),(9,34),(10,35),(11,36),(12,37),(13,38),(14,39),(15,40),(16,41)] 10 rfl (by kernel_rfl) ?_
     simp only [skipL,skipP,Act.put,List.setIfInBounds_toArray,List.set_cons_zero,List.set_cons_succ]
     refine' tkE 17 42 hS ?_ ?_; rotate_left
     ·intro W' hSW; go_simp; (try with_reducible rfl)
     refine' tkE 18 43 hS ?_ ?_; rotate_left
     ·intro W' hSW; go_simp; (try with_reducible rfl)
     simp only [Act.put,List.setIfInBounds_toArray,List.set_cons_zero,List.set_cons_succ]
     refine tkUs (fun _ _ _ _ h => h) hS [(19,44),(20,45),(21,46),(22,47),(23,48),(24,49),(25,50)] 1 rfl (by kernel_rfl) ?_
     simp only [skipL,skipP,Act.put,List.setIfInBounds_toArray,List.set_cons_zero,List.set_cons_succ]
     refine' tkE 26 51 hS ?_ ?_; rotate_left
     ·intro W' hSW; go_simp; (try with_reducible rfl)
     simp only [Act.put,List.setIfInBounds_toArray,List.set_cons_zero,List.set_cons_succ]
     refine wpAnyH_done (by kernel_rfl) ?_ _
     go_wp2
     go_ret
     exact ⟨by rw [hno.out]; rfl,HB2.out.drew.trans (hS.mono HB2.out.drew.size)⟩
    | true =>
     rcases Nat.eq_zero_or_pos i with hi00 | hpos
     ·have hgt : decide ((0 : Int) < (i : Int)) = false:=decide_eq_false (by omega)
      have hgt2 : decide (0 < i) = false:=decide_eq_false (by omega)
      have hgt3 : (0 < i) = False:=eq_false (by omega)
      have HI0:=Aside0.mk hi00
      clear hi00
      cases up with
      | none =>
       have hyes : Aside0 (nextB (l.take i) x = true):=⟨by rw [show l.take i = [] from by rw [HI0.out]; rfl,next_first,HTH.out,Bool.true_and,HPV.out]⟩
       refine wp_region_held_drew (S:=Below wr2.drew.heap.size wr2.drew) (by kernel_rfl) (Below.refl _ _) (fun hS => ?_)
       refine' tkE 0 25 hS ?_ ?_; rotate_left
       ·intro W' hSW; obtain ⟨k0,k1,k2,k3⟩:=cells4 (blk_below (blk_drew HXB.out) hSW); go_simp; (try with_reducible rfl)
       simp only [Act.put,List.setIfInBounds_toArray,List.set_cons_zero,List.set_cons_succ]
       refine wpAnyH_ready (rs:=[1]) (by kernel_rfl) (by simp) (AllReadyH.cons rfl (fun K hK => ?_) AllReadyH.nil)
       go_simp
       refine (hTh _ hS).mono ?_
       rintro e W2 ⟨rfl,hb⟩
       have hS:=hS.trans (hb.mono hS.size)
       clear hb
       refine hK.out _ _ hS (fun _ => ?_)
       clear hK K
       refine' tkE 2 27 hS ?_ ?_; rotate_left
       ·intro W' hSW; go_simp; (try with_reducible rfl)
       refine' tkE 3 28 hS ?_ ?_; rotate_left
       ·intro W' hSW; go_simp; (try with_reducible rfl)
       refine' tkE 4 29 hS ?_ ?_; rotate_left
       ·intro W' hSW; go_simp; (try with_reducible rfl)
       refine' tkE 5 30 hS ?_ ?_; rotate_left
       ·intro W' hSW; go_simp; (try with_reducible rfl)
       refine' tkE 6 31 hS ?_ ?_; rotate_left
       ·intro W' hSW; go_simp; (try with_reducible rfl)
       simp only [Act.put,List.setIfInBounds_toArray,List.set_cons_zero,List.set_cons_succ]
       refine tkUs (fun _ _ _ _ h => h) hS [(7,32),(8,33),(9,34),(10,35),(11,36),(12,37),(13,38),(14,39),(15,40)] 11 rfl (by kernel_rfl) ?_
       simp only [skipL,skipP,Act.put,List.setIfInBounds_toArray,List.set_cons_zero,List.set_cons_succ]
       refine' tkE 16 41 hS ?_ ?_; rotate_left
       ·intro W' hSW; go_simp; (try with_reducible rfl)
       refine' tkE 17 42 hS ?_ ?_; rotate_left
       ·intro W' hSW; go_simp; (try with_reducible rfl)
       refine' tkE 18 43 hS ?_ ?_; rotate_left
       ·intro W' hSW; go_simp; (try with_reducible rfl)
       refine' tkE 19 44 hS ?_ ?_; rotate_left
       ·intro W' hSW; go_simp; (try with_reducible rfl)
       refine' tkE 20 45 hS ?_ ?_; rotate_left
       ·intro W' hSW; go_simp; (try with_reducible rfl)
       simp only [Act.put,List.setIfInBounds_toArray,List.set_cons_zero,List.set_cons_succ]
       refine tkUs (fun _ _ _ _ h => h) hS [(21,46),(22,47),(23,48),(24,49)] 2 rfl (by kernel_rfl) ?_
       simp only [skipL,skipP,Act.put,List.setIfInBounds_toArray,List.set_cons_zero,List.set_cons_succ]
       refine' tkE 25 50 hS ?_ ?_; rotate_left
       ·intro W' hSW; go_simp; (try with_reducible rfl)
       refine' tkE 26 51 hS ?_ ?_; rotate_left
       ·intro W' hSW; go_simp; (try with_reducible rfl)
       simp only [Act.put,List.setIfInBounds_toArray,List.set_cons_zero,List.set_cons_succ]
       refine wpAnyH_done (by kernel_rfl) ?_ _
       have HS2:=Aside0.mk (HB2.out.drew.trans (hS.mono HB2.out.drew.size))
       have hMI2:=HMI.out.later (below_drew (Below.refl _ _) |>.trans hS)
       have hXB2:=blk_below (blk_drew HXB.out) hS
       obtain ⟨k0,k1,k2,k3⟩:=cells4 hXB2
       have hS' : Aside0 (stepsB [] (l.take (i + 1)) = true):=⟨HST.out.trans hyes.out⟩
       have htk : Aside0 (l.take (i + 1) = l.take i ++ [x]):=⟨by rw [List.take_succ_eq_append_getElem hlt,HXI.out]⟩
       have hwi : IntKind.i64.wrap ((i : Int) + 1) = ((i + 1 : Nat) : Int):=by rw [wrap_small _ (by omega) (by omega)]; omega
       clear hTh
       by_cases hk1 : x.f1 = 1
       ·have hkb : (x.f1 == 1) = true:=by simp [hk1]
        have hle:=cntD_le (l.take i) x.f0
        have hll : (l.take i).length ≤ 1024:=by rw [List.length_take]; omega
        have hq1:=hMI2.lookup x.f0 (Nat.le_trans HSZ.out (by decide))
        obtain ⟨w5,hq2,hMI5,hg5⟩:=hMI2.update x.f0 (Nat.le_trans HSZ.out (by decide)) (cntD (l.take i) x.f0 + 1) (by simp [Lit.wf,IntKind.min,IntKind.max,IntKind.signed,IntKind.bits]; omega) (by unfold maxLen; omega)
        have hw2 : IntKind.i64.wrap (cntD (l.take i) x.f0 + 1) = cntD (l.take i) x.f0 + 1:=wrap64_same (by omega) (by omega)
        have HM5 : Aside0 (MapI w5 w.heap.size (i + 1) (cntD (l.take (i + 1)))):=⟨by
         rw [htk.out,show cntD (l.take i ++ [x]) = fun t => if t = x.f0 then cntD (l.take i) x.f0 + 1 else cntD (l.take i) t from by funext t; rw [cntD_snoc]; simp [hk1]]
         exact hMI5⟩
        have HB5 : Aside0 (Below w.heap.size w w5):=⟨Below.grown HS2.out hg5 HS2.out.size (fun k hk => by have:=Option.some.inj hk; omega)⟩
        have HK1:=Aside0.mk hk1
        clear hMI2 hMI5 hg5 hle hll hk1 hXB2
        go_wp2
        go_roundg (l.length - (i + 1))
        case measure => omega
        case rel => exact ⟨i + 1,by first | rfl | (rw [hwi]),by omega,HB5,HM5,hS'⟩
       ·have hkb : (x.f1 == 1) = false:=by simp [hk1]
        have HM5 : Aside0 (MapI W2 w.heap.size (i + 1) (cntD (l.take (i + 1)))):=⟨by
         rw [htk.out,show cntD (l.take i ++ [x]) = cntD (l.take i) from by funext t; rw [cntD_snoc]; simp [hk1]]
         exact hMI2.mono (by omega)⟩
        have HK1:=Aside0.mk hk1
        clear hMI2 hk1 hXB2
        go_wp2
        go_roundg (l.length - (i + 1))
        case measure => omega
        case rel => exact ⟨i + 1,by first | rfl | (rw [hwi]),by omega,HS2,HM5,hS'⟩
      | some up =>
       have HUP : Aside0 (up.size ≤ 1000000000000):=⟨by have h1:=parentV_size HPV.out; have h2:=HSZ.out; omega⟩
       have hcz:=cntD_zero (l.take i) up
       have hcl:=cntD_le (l.take i) up
       obtain ⟨cc,hcc⟩ : ∃ cc,cntD (l.take i) up = cc:=⟨_,rfl⟩
       rw [hcc] at hcz hcl
       have HCC:=Aside0.mk hcc
       clear hcc
       obtain ⟨db,hdb2⟩ : ∃ db,dirB (l.take i) up = db:=⟨_,rfl⟩
       rw [hdb2] at hcz
       have HDB:=Aside0.mk hdb2
       clear hdb2
       cases db with
       | false =>
        have hno : Aside0 (T = false):=⟨by
         rw [← HT.out]
         refine steps_false (i:=i + 1) ?_
         rw [HST.out,show l.take i = [] from by rw [HI0.out]; rfl,next_first,HTH.out,Bool.true_and,HPV.out]
         exact (by have h:=HDB.out; rw [show l.take i = [] from by rw [HI0.out]; rfl] at h; exact h)⟩
        replace hcz : (cc == 0) = true:=hcz
        refine wp_region_held_drew (S:=Below wr2.drew.heap.size wr2.drew) (by kernel_rfl) (Below.refl _ _) (fun hS => ?_)
        refine' tkE 0 25 hS ?_ ?_; rotate_left
        ·intro W' hSW; obtain ⟨k0,k1,k2,k3⟩:=cells4 (blk_below (blk_drew HXB.out) hSW); go_simp; (try with_reducible rfl)
        simp only [Act.put,List.setIfInBounds_toArray,List.set_cons_zero,List.set_cons_succ]
        refine wpAnyH_ready (rs:=[1]) (by kernel_rfl) (by simp) (AllReadyH.cons rfl (fun K hK => ?_) AllReadyH.nil)
        go_simp
        refine (hTh _ hS).mono ?_
        rintro e W2 ⟨rfl,hb⟩
        have hS:=hS.trans (hb.mono hS.size)
        clear hb
        refine hK.out _ _ hS (fun _ => ?_)
        clear hK K
        refine' tkE 2 27 hS ?_ ?_; rotate_left
        ·intro W' hSW; go_simp; (try with_reducible rfl)
        refine' tkE 3 28 hS ?_ ?_; rotate_left
        ·intro W' hSW; go_simp; (try with_reducible rfl)
        refine' tkE 4 29 hS ?_ ?_; rotate_left
        ·intro W' hSW; go_simp; (try with_reducible rfl)
        refine' tkE 5 30 hS ?_ ?_; rotate_left
        ·intro W' hSW; go_simp; (try with_reducible rfl)
        refine' tkE 6 31 hS ?_ ?_; rotate_left
        ·intro W' hSW; go_simp; (try with_reducible rfl)
        simp only [Act.put,List.setIfInBounds_toArray,List.set_cons_zero,List.set_cons_succ]
        refine tkUs (fun _ _ _ _ h => h) hS [(7,32),(8,33),(9,34),(10,35),(11,36),(12,37),(13,38),(14,39),(15,40)] 11 rfl (by kernel_rfl) ?_
        simp only [skipL,skipP,Act.put,List.setIfInBounds_toArray,List.set_cons_zero,List.set_cons_succ]
        refine' tkE 16 41 hS ?_ ?_; rotate_left
        ·intro W' hSW; go_simp; (try with_reducible rfl)
        refine' tkE 17 42 hS ?_ ?_; rotate_left
        ·intro W' hSW; go_simp; (try with_reducible rfl)
        refine' tkE 18 43 hS ?_ ?_; rotate_left
        ·intro W' hSW; go_simp; (try with_reducible rfl)
        refine' tkE 19 44 hS ?_ ?_; rotate_left
        ·intro W' hSW; go_simp; (try with_reducible rfl)
        refine' tkE 20 45 hS ?_ ?_; rotate_left
        ·intro W' hSW; go_simp; (try with_reducible rfl)
        refine' tkE 21 46 hS ?_ ?_; rotate_left
        ·intro W' hSW; go_simp; (try with_reducible rfl)
        refine' tkE 22 47 hS ?_ ?_; rotate_left
        ·intro W' hSW; go_simp; (try with_reducible rfl)
        refine' tkE 23 48 hS ?_ ?_; rotate_left
        ·intro W' hSW; have q1:=(HMI.out.later ((below_drew (Below.refl _ _)).trans hSW)).lookup up (Nat.le_trans HUP.out (by decide)); rw [HCC.out] at q1; go_simp; (try with_reducible rfl)
        refine' tkE 24 49 hS ?_ ?_; rotate_left
        ·intro W' hSW; go_simp; (try with_reducible rfl)
        refine' tkE 25 50 hS ?_ ?_; rotate_left
        ·intro W' hSW; go_simp; (try with_reducible rfl)
        refine' tkE 26 51 hS ?_ ?_; rotate_left
        ·intro W' hSW; go_simp; (try with_reducible rfl)
        simp only [Act.put,List.setIfInBounds_toArray,List.set_cons_zero,List.set_cons_succ]
        refine wpAnyH_done (by kernel_rfl) ?_ _
        go_wp2
        go_ret
        exact ⟨by rw [hno.out]; rfl,HB2.out.drew.trans (hS.mono HB2.out.drew.size)⟩
       | true =>
        have hyes : Aside0 (nextB (l.take i) x = true):=⟨by rw [show l.take i = [] from by rw [HI0.out]; rfl,next_first,HTH.out,Bool.true_and,HPV.out]; exact (by have h:=HDB.out; rw [show l.take i = [] from by rw [HI0.out]; rfl] at h; exact h)⟩
        replace hcz : (cc == 0) = false:=hcz
        refine wp_region_held_drew (S:=Below wr2.drew.heap.size wr2.drew) (by kernel_rfl) (Below.refl _ _) (fun hS => ?_)
        refine' tkE 0 25 hS ?_ ?_; rotate_left
        ·intro W' hSW; obtain ⟨k0,k1,k2,k3⟩:=cells4 (blk_below (blk_drew HXB.out) hSW); go_simp; (try with_reducible rfl)
        simp only [Act.put,List.setIfInBounds_toArray,List.set_cons_zero,List.set_cons_succ]
        refine wpAnyH_ready (rs:=[1]) (by kernel_rfl) (by simp) (AllReadyH.cons rfl (fun K hK => ?_) AllReadyH.nil)
        go_simp
        refine (hTh _ hS).mono ?_
        rintro e W2 ⟨rfl,hb⟩
        have hS:=hS.trans (hb.mono hS.size)
        clear hb
        refine hK.out _ _ hS (fun _ => ?_)
        clear hK K
        refine' tkE 2 27 hS ?_ ?_; rotate_left
        ·intro W' hSW; go_simp; (try with_reducible rfl)
        refine' tkE 3 28 hS ?_ ?_; rotate_left
        ·intro W' hSW; go_simp; (try with_reducible rfl)
        refine' tkE 4 29 hS ?_ ?_; rotate_left
        ·intro W' hSW; go_simp; (try with_reducible rfl)
        refine' tkE 5 30 hS ?_ ?_; rotate_left
        ·intro W' hSW; go_simp; (try with_reducible rfl)
        refine' tkE 6 31 hS ?_ ?_; rotate_left
        ·intro W' hSW; go_simp; (try with_reducible rfl)
        simp only [Act.put,List.setIfInBounds_toArray,List.set_cons_zero,List.set_cons_succ]
        refine tkUs (fun _ _ _ _ h => h) hS [(7,32),(8,33),(9,34),(10,35),(11,36),(12,37),(13,38),(14,39),(15,40)] 11 rfl (by kernel_rfl) ?_
        simp only [skipL,skipP,Act.put,List.setIfInBounds_toArray,List.set_cons_zero,List.set_cons_succ]
        refine' tkE 16 41 hS ?_ ?_; rotate_left
        ·intro W' hSW; go_simp; (try with_reducible rfl)
        refine' tkE 17 42 hS ?_ ?_; rotate_left
        ·intro W' hSW; go_simp; (try with_reducible rfl)
        refine' tkE 18 43 hS ?_ ?_; rotate_left
        ·intro W' hSW; go_simp; (try with_reducible rfl)
        refine' tkE 19 44 hS ?_ ?_; rotate_left
        ·intro W' hSW; go_simp; (try with_reducible rfl)
        refine' tkE 20 45 hS ?_ ?_; rotate_left
        ·intro W' hSW; go_simp; (try with_reducible rfl)
        refine' tkE 21 46 hS ?_ ?_; rotate_left
        ·intro W' hSW; go_simp; (try with_reducible rfl)
        refine' tkE 22 47 hS ?_ ?_; rotate_left
        ·intro W' hSW; go_simp; (try with_reducible rfl)
        refine' tkE 23 48 hS ?_ ?_; rotate_left
        ·intro W' hSW; have q1:=(HMI.out.later ((below_drew (Below.refl _ _)).trans hSW)).lookup up (Nat.le_trans HUP.out (by decide)); rw [HCC.out] at q1; go_simp; (try with_reducible rfl)
        refine' tkE 24 49 hS ?_ ?_; rotate_left
        ·intro W' hSW; go_simp; (try with_reducible rfl)
        refine' tkE 25 50 hS ?_ ?_; rotate_left
        ·intro W' hSW; go_simp; (try with_reducible rfl)
        refine' tkE 26 51 hS ?_ ?_; rotate_left
        ·intro W' hSW; go_simp; (try with_reducible rfl)
        simp only [Act.put,List.setIfInBounds_toArray,List.set_cons_zero,List.set_cons_succ]
        refine wpAnyH_done (by kernel_rfl) ?_ _
        have HS2:=Aside0.mk (HB2.out.drew.trans (hS.mono HB2.out.drew.size))
        have hMI2:=HMI.out.later (below_drew (Below.refl _ _) |>.trans hS)
        have hXB2:=blk_below (blk_drew HXB.out) hS
        obtain ⟨k0,k1,k2,k3⟩:=cells4 hXB2
        have hS' : Aside0 (stepsB [] (l.take (i + 1)) = true):=⟨HST.out.trans hyes.out⟩
        have htk : Aside0 (l.take (i + 1) = l.take i ++ [x]):=⟨by rw [List.take_succ_eq_append_getElem hlt,HXI.out]⟩
        have hwi : IntKind.i64.wrap ((i : Int) + 1) = ((i + 1 : Nat) : Int):=by rw [wrap_small _ (by omega) (by omega)]; omega
        clear hTh
        by_cases hk1 : x.f1 = 1
        ·have hkb : (x.f1 == 1) = true:=by simp [hk1]
         have hle:=cntD_le (l.take i) x.f0
         have hll : (l.take i).length ≤ 1024:=by rw [List.length_take]; omega
         have hq1:=hMI2.lookup x.f0 (Nat.le_trans HSZ.out (by decide))
         obtain ⟨w5,hq2,hMI5,hg5⟩:=hMI2.update x.f0 (Nat.le_trans HSZ.out (by decide)) (cntD (l.take i) x.f0 + 1) (by simp [Lit.wf,IntKind.min,IntKind.max,IntKind.signed,IntKind.bits]; omega) (by unfold maxLen; omega)
         have hw2 : IntKind.i64.wrap (cntD (l.take i) x.f0 + 1) = cntD (l.take i) x.f0 + 1:=wrap64_same (by omega) (by omega)
         have HM5 : Aside0 (MapI w5 w.heap.size (i + 1) (cntD (l.take (i + 1)))):=⟨by
          rw [htk.out,show cntD (l.take i ++ [x]) = fun t => if t = x.f0 then cntD (l.take i) x.f0 + 1 else cntD (l.take i) t from by funext t; rw [cntD_snoc]; simp [hk1]]
          exact hMI5⟩
         have HB5 : Aside0 (Below w.heap.size w w5):=⟨Below.grown HS2.out hg5 HS2.out.size (fun k hk => by have:=Option.some.inj hk; omega)⟩
         have HK1:=Aside0.mk hk1
         clear hMI2 hMI5 hg5 hle hll hk1 hXB2
         go_wp2
         go_roundg (l.length - (i + 1))
         case measure => omega
         case rel => exact ⟨i + 1,by first | rfl | (rw [hwi]),by omega,HB5,HM5,hS'⟩
        ·have hkb : (x.f1 == 1) = false:=by simp [hk1]
         have HM5 : Aside0 (MapI W2 w.heap.size (i + 1) (cntD (l.take (i + 1)))):=⟨by
          rw [htk.out,show cntD (l.take i ++ [x]) = cntD (l.take i) from by funext t; rw [cntD_snoc]; simp [hk1]]
          exact hMI2.mono (by omega)⟩
         have HK1:=Aside0.mk hk1
         clear hMI2 hk1 hXB2
         go_wp2
         go_roundg (l.length - (i + 1))
         case measure => omega
         case rel => exact ⟨i + 1,by first | rfl | (rw [hwi]),by omega,HS2,HM5,hS'⟩
     ·have hgt : decide ((0 : Int) < (i : Int)) = true:=decide_eq_true (by omega)
      have hgt2 : decide (0 < i) = true:=decide_eq_true hpos
      have hgt3 : (0 < i) = True:=eq_true hpos
      have hwm : IntKind.i64.wrap ((i : Int) - 1) = (i : Int) - 1:=wrap64_same (by omega) (by omega)
      have hm0 : (0 : Int) ≤ (i : Int) - 1:=by omega
      have hm1 : (i : Int) - 1 < (l.length : Int):=by omega
      obtain ⟨ad',X',d',he',rx',pc,-,-,-⟩:=ent_at (Kd.C_below HR.out (B1.out.trans (HW2B.out.mono B1.out.size))) (i - 1) (by omega) rfl
      injection he' with he'
      subst he'
      obtain ⟨y,hy⟩ : ∃ y,l.getD (i - 1) z41 = y:=⟨_,rfl⟩
      rw [hy] at rx' pc
      have pc:=Aside0.mk pc
      have h1i : (1 : Int) ≤ (i : Int):=by omega
      have HNX : Aside0 (nextB (l.take i) x = (ltP y.f0 x.f0 && (match parentV x.f0 with | none => true | some p => dirB (l.take i) p))):=⟨by rw [next_later l i hpos (by omega),hy,HTH.out,Bool.true_and]⟩
      obtain ⟨lt,hlt2⟩ : ∃ lt,ltP y.f0 x.f0 = lt:=⟨_,rfl⟩
      have hbl : Op.bytesLess y.f0.toList x.f0.toList = lt:=hlt2
      have HLT:=Aside0.mk hlt2
      clear hy rx' hpos hlt2
      cases lt with
      | false =>
       have hno : Aside0 (T = false):=⟨by
        rw [← HT.out]
        refine steps_false (i:=i + 1) ?_
        rw [HST.out,HNX.out,HLT.out,Bool.false_and]⟩
       refine wp_region_held_drew (S:=Below wr2.drew.heap.size wr2.drew) (by kernel_rfl) (Below.refl _ _) (fun hS => ?_)
       refine' tkE 0 25 hS ?_ ?_; rotate_left
       ·intro W' hSW; obtain ⟨k0,k1,k2,k3⟩:=cells4 (blk_below (blk_drew HXB.out) hSW); go_simp; (try with_reducible rfl)
       simp only [Act.put,List.setIfInBounds_toArray,List.set_cons_zero,List.set_cons_succ]
       refine wpAnyH_ready (rs:=[1]) (by kernel_rfl) (by simp) (AllReadyH.cons rfl (fun K hK => ?_) AllReadyH.nil)
       go_simp
       refine (hTh _ hS).mono ?_
       rintro e W2 ⟨rfl,hb⟩
       have hS:=hS.trans (hb.mono hS.size)
       clear hb
       refine hK.out _ _ hS (fun _ => ?_)
       clear hK K
       refine' tkE 2 27 hS ?_ ?_; rotate_left
       ·intro W' hSW; go_simp; (try with_reducible rfl)
       refine' tkE 3 28 hS ?_ ?_; rotate_left
       ·intro W' hSW; go_simp; (try with_reducible rfl)
       refine' tkE 4 29 hS ?_ ?_; rotate_left
       ·intro W' hSW; go_simp; (try with_reducible rfl)
       refine' tkE 5 30 hS ?_ ?_; rotate_left
       ·intro W' hSW; go_simp; (try with_reducible rfl)
       refine' tkE 6 31 hS ?_ ?_; rotate_left
       ·intro W' hSW; go_simp; (try with_reducible rfl)
       refine' tkE 7 32 hS ?_ ?_; rotate_left
       ·intro W' hSW; go_simp; (try with_reducible rfl)
       refine' tkE 8 33 hS ?_ ?_; rotate_left
       ·intro W' hSW; go_simp; (try with_reducible rfl)
       refine' tkE 9 34 hS ?_ ?_; rotate_left
       ·intro W' hSW; go_simp; (try with_reducible rfl)
       refine' tkE 10 35 hS ?_ ?_; rotate_left
       ·intro W' hSW; go_simp; (try with_reducible rfl)
       refine' tkE 11 36 hS ?_ ?_; rotate_left
       ·intro W' hSW; go_simp; (try with_reducible rfl)
       refine' tkE 12 37 hS ?_ ?_; rotate_left
       ·intro W' hSW; have q0:=pw_cell_below hSW (pc.out); go_simp; (try with_reducible rfl)
       refine' tkE 13 38 hS ?_ ?_; rotate_left
       ·intro W' hSW; go_simp; (try with_reducible rfl)
       refine' tkE 14 39 hS ?_ ?_; rotate_left
       ·intro W' hSW; obtain ⟨k0,k1,k2,k3⟩:=cells4 (blk_below (blk_drew HXB.out) hSW); go_simp; (try with_reducible rfl)
       refine' tkE 15 40 hS ?_ ?_; rotate_left
       ·intro W' hSW; go_simp; (try with_reducible rfl)
       refine' tkE 16 41 hS ?_ ?_; rotate_left
       ·intro W' hSW; go_simp; (try with_reducible rfl)
       refine' tkE 17 42 hS ?_ ?_; rotate_left
       ·intro W' hSW; go_simp; (try with_reducible rfl)
       refine' tkE 18 43 hS ?_ ?_; rotate_left
       ·intro W' hSW; go_simp; (try with_reducible rfl)
       simp only [Act.put,List.setIfInBounds_toArray,List.set_cons_zero,List.set_cons_succ]
       refine tkUs (fun _ _ _ _ h => h) hS [(19,44),(20,45),(21,46),(22,47),(23,48),(24,49),(25,50)] 1 rfl (by kernel_rfl) ?_
       simp only [skipL,skipP,Act.put,List.setIfInBounds_toArray,List.set_cons_zero,List.set_cons_succ]
       refine' tkE 26 51 hS ?_ ?_; rotate_left
       ·intro W' hSW; go_simp; (try with_reducible rfl)
       simp only [Act.put,List.setIfInBounds_toArray,List.set_cons_zero,List.set_cons_succ]
       refine wpAnyH_done (by kernel_rfl) ?_ _
       go_wp2
       go_ret
       exact ⟨by rw [hno.out]; rfl,HB2.out.drew.trans (hS.mono HB2.out.drew.size)⟩
      | true =>
       cases up with
       | none =>
        have hyes : Aside0 (nextB (l.take i) x = true):=⟨by rw [HNX.out,HLT.out,Bool.true_and,HPV.out]⟩
        refine wp_region_held_drew (S:=Below wr2.drew.heap.size wr2.drew) (by kernel_rfl) (Below.refl _ _) (fun hS => ?_)
        refine' tkE 0 25 hS ?_ ?_; rotate_left
        ·intro W' hSW; obtain ⟨k0,k1,k2,k3⟩:=cells4 (blk_below (blk_drew HXB.out) hSW); go_simp; (try with_reducible rfl)
        simp only [Act.put,List.setIfInBounds_toArray,List.set_cons_zero,List.set_cons_succ]
        refine wpAnyH_ready (rs:=[1]) (by kernel_rfl) (by simp) (AllReadyH.cons rfl (fun K hK => ?_) AllReadyH.nil)
        go_simp
        refine (hTh _ hS).mono ?_
        rintro e W2 ⟨rfl,hb⟩
        have hS:=hS.trans (hb.mono hS.size)
        clear hb
        refine hK.out _ _ hS (fun _ => ?_)
        clear hK K
        refine' tkE 2 27 hS ?_ ?_; rotate_left
        ·intro W' hSW; go_simp; (try with_reducible rfl)
        refine' tkE 3 28 hS ?_ ?_; rotate_left
        ·intro W' hSW; go_simp; (try with_reducible rfl)
        refine' tkE 4 29 hS ?_ ?_; rotate_left
        ·intro W' hSW; go_simp; (try with_reducible rfl)
        refine' tkE 5 30 hS ?_ ?_; rotate_left
        ·intro W' hSW; go_simp; (try with_reducible rfl)
        refine' tkE 6 31 hS ?_ ?_; rotate_left
        ·intro W' hSW; go_simp; (try with_reducible rfl)
        refine' tkE 7 32 hS ?_ ?_; rotate_left
        ·intro W' hSW; go_simp; (try with_reducible rfl)
        refine' tkE 8 33 hS ?_ ?_; rotate_left
        ·intro W' hSW; go_simp; (try with_reducible rfl)
        refine' tkE 9 34 hS ?_ ?_; rotate_left
        ·intro W' hSW; go_simp; (try with_reducible rfl)
        refine' tkE 10 35 hS ?_ ?_; rotate_left
        ·intro W' hSW; go_simp; (try with_reducible rfl)
        refine' tkE 11 36 hS ?_ ?_; rotate_left
        ·intro W' hSW; go_simp; (try with_reducible rfl)
        refine' tkE 12 37 hS ?_ ?_; rotate_left
        ·intro W' hSW; have q0:=pw_cell_below hSW (pc.out); go_simp; (try with_reducible rfl)
        refine' tkE 13 38 hS ?_ ?_; rotate_left
        ·intro W' hSW; go_simp; (try with_reducible rfl)
        refine' tkE 14 39 hS ?_ ?_; rotate_left
        ·intro W' hSW; obtain ⟨k0,k1,k2,k3⟩:=cells4 (blk_below (blk_drew HXB.out) hSW); go_simp; (try with_reducible rfl)
        refine' tkE 15 40 hS ?_ ?_; rotate_left
        ·intro W' hSW; go_simp; (try with_reducible rfl)
        refine' tkE 16 41 hS ?_ ?_; rotate_left
        ·intro W' hSW; go_simp; (try with_reducible rfl)
        refine' tkE 17 42 hS ?_ ?_; rotate_left
        ·intro W' hSW; go_simp; (try with_reducible rfl)
        refine' tkE 18 43 hS ?_ ?_; rotate_left
        ·intro W' hSW; go_simp; (try with_reducible rfl)
        refine' tkE 19 44 hS ?_ ?_; rotate_left
        ·intro W' hSW; go_simp; (try with_reducible rfl)
        refine' tkE 20 45 hS ?_ ?_; rotate_left
        ·intro W' hSW; go_simp; (try with_reducible rfl)
        simp only [Act.put,List.setIfInBounds_toArray,List.set_cons_zero,List.set_cons_succ]
        refine tkUs (fun _ _ _ _ h => h) hS [(21,46),(22,47),(23,48),(24,49)] 2 rfl (by kernel_rfl) ?_
        simp only [skipL,skipP,Act.put,List.setIfInBounds_toArray,List.set_cons_zero,List.set_cons_succ]
        refine' tkE 25 50 hS ?_ ?_; rotate_left
        ·intro W' hSW; go_simp; (try with_reducible rfl)
        refine' tkE 26 51 hS ?_ ?_; rotate_left
        ·intro W' hSW; go_simp; (try with_reducible rfl)
        simp only [Act.put,List.setIfInBounds_toArray,List.set_cons_zero,List.set_cons_succ]
        refine wpAnyH_done (by kernel_rfl) ?_ _
        have HS2:=Aside0.mk (HB2.out.drew.trans (hS.mono HB2.out.drew.size))
        have hMI2:=HMI.out.later (below_drew (Below.refl _ _) |>.trans hS)
        have hXB2:=blk_below (blk_drew HXB.out) hS
        obtain ⟨k0,k1,k2,k3⟩:=cells4 hXB2
        have hS' : Aside0 (stepsB [] (l.take (i + 1)) = true):=⟨HST.out.trans hyes.out⟩
        have htk : Aside0 (l.take (i + 1) = l.take i ++ [x]):=⟨by rw [List.take_succ_eq_append_getElem hlt,HXI.out]⟩
        have hwi : IntKind.i64.wrap ((i : Int) + 1) = ((i + 1 : Nat) : Int):=by rw [wrap_small _ (by omega) (by omega)]; omega
        clear hTh
        by_cases hk1 : x.f1 = 1
        ·have hkb : (x.f1 == 1) = true:=by simp [hk1]
         have hle:=cntD_le (l.take i) x.f0
         have hll : (l.take i).length ≤ 1024:=by rw [List.length_take]; omega
         have hq1:=hMI2.lookup x.f0 (Nat.le_trans HSZ.out (by decide))
         obtain ⟨w5,hq2,hMI5,hg5⟩:=hMI2.update x.f0 (Nat.le_trans HSZ.out (by decide)) (cntD (l.take i) x.f0 + 1) (by simp [Lit.wf,IntKind.min,IntKind.max,IntKind.signed,IntKind.bits]; omega) (by unfold maxLen; omega)
         have hw2 : IntKind.i64.wrap (cntD (l.take i) x.f0 + 1) = cntD (l.take i) x.f0 + 1:=wrap64_same (by omega) (by omega)
         have HM5 : Aside0 (MapI w5 w.heap.size (i + 1) (cntD (l.take (i + 1)))):=⟨by
          rw [htk.out,show cntD (l.take i ++ [x]) = fun t => if t = x.f0 then cntD (l.take i) x.f0 + 1 else cntD (l.take i) t from by funext t; rw [cntD_snoc]; simp [hk1]]
          exact hMI5⟩
         have HB5 : Aside0 (Below w.heap.size w w5):=⟨Below.grown HS2.out hg5 HS2.out.size (fun k hk => by have:=Option.some.inj hk; omega)⟩
         have HK1:=Aside0.mk hk1
         clear hMI2 hMI5 hg5 hle hll hk1 hXB2
         go_wp2
         go_roundg (l.length - (i + 1))
         case measure => omega
         case rel => exact ⟨i + 1,by first | rfl | (rw [hwi]),by omega,HB5,HM5,hS'⟩
        ·have hkb : (x.f1 == 1) = false:=by simp [hk1]
         have HM5 : Aside0 (MapI W2 w.heap.size (i + 1) (cntD (l.take (i + 1)))):=⟨by
          rw [htk.out,show cntD (l.take i ++ [x]) = cntD (l.take i) from by funext t; rw [cntD_snoc]; simp [hk1]]
          exact hMI2.mono (by omega)⟩
         have HK1:=Aside0.mk hk1
         clear hMI2 hk1 hXB2
         go_wp2
         go_roundg (l.length - (i + 1))
         case measure => omega
         case rel => exact ⟨i + 1,by first | rfl | (rw [hwi]),by omega,HS2,HM5,hS'⟩
       | some up =>
        have HUP : Aside0 (up.size ≤ 1000000000000):=⟨by have h1:=parentV_size HPV.out; have h2:=HSZ.out; omega⟩
        have hcz:=cntD_zero (l.take i) up
        have hcl:=cntD_le (l.take i) up
        obtain ⟨cc,hcc⟩ : ∃ cc,cntD (l.take i) up = cc:=⟨_,rfl⟩
        rw [hcc] at hcz hcl
        have HCC:=Aside0.mk hcc
        clear hcc
        obtain ⟨db,hdb2⟩ : ∃ db,dirB (l.take i) up = db:=⟨_,rfl⟩
        rw [hdb2] at hcz
        have HDB:=Aside0.mk hdb2
        clear hdb2
        cases db with
        | false =>
         have hno : Aside0 (T = false):=⟨by
          rw [← HT.out]
          refine steps_false (i:=i + 1) ?_
          rw [HST.out,HNX.out,HLT.out,Bool.true_and,HPV.out]
          exact HDB.out⟩
         replace hcz : (cc == 0) = true:=hcz
         refine wp_region_held_drew (S:=Below wr2.drew.heap.size wr2.drew) (by kernel_rfl) (Below.refl _ _) (fun hS => ?_)
         refine' tkE 0 25 hS ?_ ?_; rotate_left
         ·intro W' hSW; obtain ⟨k0,k1,k2,k3⟩:=cells4 (blk_below (blk_drew HXB.out) hSW); go_simp; (try with_reducible rfl)
         simp only [Act.put,List.setIfInBounds_toArray,List.set_cons_zero,List.set_cons_succ]
         refine wpAnyH_ready (rs:=[1]) (by kernel_rfl) (by simp) (AllReadyH.cons rfl (fun K hK => ?_) AllReadyH.nil)
         go_simp
         refine (hTh _ hS).mono ?_
         rintro e W2 ⟨rfl,hb⟩
         have hS:=hS.trans (hb.mono hS.size)
         clear hb
         refine hK.out _ _ hS (fun _ => ?_)
         clear hK K
         refine' tkE 2 27 hS ?_ ?_; rotate_left
         ·intro W' hSW; go_simp; (try with_reducible rfl)
         refine' tkE 3 28 hS ?_ ?_; rotate_left
         ·intro W' hSW; go_simp; (try with_reducible rfl)
         refine' tkE 4 29 hS ?_ ?_; rotate_left
         ·intro W' hSW; go_simp; (try with_reducible rfl)
         refine' tkE 5 30 hS ?_ ?_; rotate_left
         ·intro W' hSW; go_simp; (try with_reducible rfl)
         refine' tkE 6 31 hS ?_ ?_; rotate_left
         ·intro W' hSW; go_simp; (try with_reducible rfl)
         refine' tkE 7 32 hS ?_ ?_; rotate_left
         ·intro W' hSW; go_simp; (try with_reducible rfl)
         refine' tkE 8 33 hS ?_ ?_; rotate_left
         ·intro W' hSW; go_simp; (try with_reducible rfl)
         refine' tkE 9 34 hS ?_ ?_; rotate_left
         ·intro W' hSW; go_simp; (try with_reducible rfl)
         refine' tkE 10 35 hS ?_ ?_; rotate_left
         ·intro W' hSW; go_simp; (try with_reducible rfl)
         refine' tkE 11 36 hS ?_ ?_; rotate_left
         ·intro W' hSW; go_simp; (try with_reducible rfl)
         refine' tkE 12 37 hS ?_ ?_; rotate_left
         ·intro W' hSW; have q0:=pw_cell_below hSW (pc.out); go_simp; (try with_reducible rfl)
         refine' tkE 13 38 hS ?_ ?_; rotate_left
         ·intro W' hSW; go_simp; (try with_reducible rfl)
         refine' tkE 14 39 hS ?_ ?_; rotate_left
         ·intro W' hSW; obtain ⟨k0,k1,k2,k3⟩:=cells4 (blk_below (blk_drew HXB.out) hSW); go_simp; (try with_reducible rfl)
         refine' tkE 15 40 hS ?_ ?_; rotate_left
         ·intro W' hSW; go_simp; (try with_reducible rfl)
         refine' tkE 16 41 hS ?_ ?_; rotate_left
         ·intro W' hSW; go_simp; (try with_reducible rfl)
         refine' tkE 17 42 hS ?_ ?_; rotate_left
         ·intro W' hSW; go_simp; (try with_reducible rfl)
         refine' tkE 18 43 hS ?_ ?_; rotate_left
         ·intro W' hSW; go_simp; (try with_reducible rfl)
         refine' tkE 19 44 hS ?_ ?_; rotate_left
         ·intro W' hSW; go_simp; (try with_reducible rfl)
         refine' tkE 20 45 hS ?_ ?_; rotate_left
         ·intro W' hSW; go_simp; (try with_reducible rfl)
         refine' tkE 21 46 hS ?_ ?_; rotate_left
         ·intro W' hSW; go_simp; (try with_reducible rfl)
         refine' tkE 22 47 hS ?_ ?_; rotate_left
         ·intro W' hSW; go_simp; (try with_reducible rfl)
         refine' tkE 23 48 hS ?_ ?_; rotate_left
         ·intro W' hSW; have q1:=(HMI.out.later ((below_drew (Below.refl _ _)).trans hSW)).lookup up (Nat.le_trans HUP.out (by decide)); rw [HCC.out] at q1; go_simp; (try with_reducible rfl)
         refine' tkE 24 49 hS ?_ ?_; rotate_left
         ·intro W' hSW; go_simp; (try with_reducible rfl)
         refine' tkE 25 50 hS ?_ ?_; rotate_left
         ·intro W' hSW; go_simp; (try with_reducible rfl)
         refine' tkE 26 51 hS ?_ ?_; rotate_left
         ·intro W' hSW; go_simp; (try with_reducible rfl)
         simp only [Act.put,List.setIfInBounds_toArray,List.set_cons_zero,List.set_cons_succ]
         refine wpAnyH_done (by kernel_rfl) ?_ _
         go_wp2
         go_ret
         exact ⟨by rw [hno.out]; rfl,HB2.out.drew.trans (hS.mono HB2.out.drew.size)⟩
        | true =>
         have hyes : Aside0 (nextB (l.take i) x = true):=⟨by rw [HNX.out,HLT.out,Bool.true_and,HPV.out]; exact HDB.out⟩
         replace hcz : (cc == 0) = false:=hcz
         refine wp_region_held_drew (S:=Below wr2.drew.heap.size wr2.drew) (by kernel_rfl) (Below.refl _ _) (fun hS => ?_)
         refine' tkE 0 25 hS ?_ ?_; rotate_left
         ·intro W' hSW; obtain ⟨k0,k1,k2,k3⟩:=cells4 (blk_below (blk_drew HXB.out) hSW); go_simp; (try with_reducible rfl)
         simp only [Act.put,List.setIfInBounds_toArray,List.set_cons_zero,List.set_cons_succ]
         refine wpAnyH_ready (rs:=[1]) (by kernel_rfl) (by simp) (AllReadyH.cons rfl (fun K hK => ?_) AllReadyH.nil)
         go_simp
         refine (hTh _ hS).mono ?_
         rintro e W2 ⟨rfl,hb⟩
         have hS:=hS.trans (hb.mono hS.size)
         clear hb
         refine hK.out _ _ hS (fun _ => ?_)
         clear hK K
         refine' tkE 2 27 hS ?_ ?_; rotate_left
         ·intro W' hSW; go_simp; (try with_reducible rfl)
         refine' tkE 3 28 hS ?_ ?_; rotate_left
         ·intro W' hSW; go_simp; (try with_reducible rfl)
         refine' tkE 4 29 hS ?_ ?_; rotate_left
         ·intro W' hSW; go_simp; (try with_reducible rfl)
         refine' tkE 5 30 hS ?_ ?_; rotate_left
         ·intro W' hSW; go_simp; (try with_reducible rfl)
         refine' tkE 6 31 hS ?_ ?_; rotate_left
         ·intro W' hSW; go_simp; (try with_reducible rfl)
         refine' tkE 7 32 hS ?_ ?_; rotate_left
         ·intro W' hSW; go_simp; (try with_reducible rfl)
         refine' tkE 8 33 hS ?_ ?_; rotate_left
         ·intro W' hSW; go_simp; (try with_reducible rfl)
         refine' tkE 9 34 hS ?_ ?_; rotate_left
         ·intro W' hSW; go_simp; (try with_reducible rfl)
         refine' tkE 10 35 hS ?_ ?_; rotate_left
         ·intro W' hSW; go_simp; (try with_reducible rfl)
         refine' tkE 11 36 hS ?_ ?_; rotate_left
         ·intro W' hSW; go_simp; (try with_reducible rfl)
         refine' tkE 12 37 hS ?_ ?_; rotate_left
         ·intro W' hSW; have q0:=pw_cell_below hSW (pc.out); go_simp; (try with_reducible rfl)
         refine' tkE 13 38 hS ?_ ?_; rotate_left
         ·intro W' hSW; go_simp; (try with_reducible rfl)
         refine' tkE 14 39 hS ?_ ?_; rotate_left
         ·intro W' hSW; obtain ⟨k0,k1,k2,k3⟩:=cells4 (blk_below (blk_drew HXB.out) hSW); go_simp; (try with_reducible rfl)
         refine' tkE 15 40 hS ?_ ?_; rotate_left
         ·intro W' hSW; go_simp; (try with_reducible rfl)
         refine' tkE 16 41 hS ?_ ?_; rotate_left
         ·intro W' hSW; go_simp; (try with_reducible rfl)
         refine' tkE 17 42 hS ?_ ?_; rotate_left
         ·intro W' hSW; go_simp; (try with_reducible rfl)
         refine' tkE 18 43 hS ?_ ?_; rotate_left
         ·intro W' hSW; go_simp; (try with_reducible rfl)
         refine' tkE 19 44 hS ?_ ?_; rotate_left
         ·intro W' hSW; go_simp; (try with_reducible rfl)
         refine' tkE 20 45 hS ?_ ?_; rotate_left
         ·intro W' hSW; go_simp; (try with_reducible rfl)
         refine' tkE 21 46 hS ?_ ?_; rotate_left
         ·intro W' hSW; go_simp; (try with_reducible rfl)
         refine' tkE 22 47 hS ?_ ?_; rotate_left
         ·intro W' hSW; go_simp; (try with_reducible rfl)
         refine' tkE 23 48 hS ?_ ?_; rotate_left
         ·intro W' hSW; have q1:=(HMI.out.later ((below_drew (Below.refl _ _)).trans hSW)).lookup up (Nat.le_trans HUP.out (by decide)); rw [HCC.out] at q1; go_simp; (try with_reducible rfl)
         refine' tkE 24 49 hS ?_ ?_; rotate_left
         ·intro W' hSW; go_simp; (try with_reducible rfl)
         refine' tkE 25 50 hS ?_ ?_; rotate_left
         ·intro W' hSW; go_simp; (try with_reducible rfl)
         refine' tkE 26 51 hS ?_ ?_; rotate_left
         ·intro W' hSW; go_simp; (try with_reducible rfl)
         simp only [Act.put,List.setIfInBounds_toArray,List.set_cons_zero,List.set_cons_succ]
         refine wpAnyH_done (by kernel_rfl) ?_ _
         have HS2:=Aside0.mk (HB2.out.drew.trans (hS.mono HB2.out.drew.size))
         have hMI2:=HMI.out.later (below_drew (Below.refl _ _) |>.trans hS)
         have hXB2:=blk_below (blk_drew HXB.out) hS
         obtain ⟨k0,k1,k2,k3⟩:=cells4 hXB2
         have hS' : Aside0 (stepsB [] (l.take (i + 1)) = true):=⟨HST.out.trans hyes.out⟩
         have htk : Aside0 (l.take (i + 1) = l.take i ++ [x]):=⟨by rw [List.take_succ_eq_append_getElem hlt,HXI.out]⟩
         have hwi : IntKind.i64.wrap ((i : Int) + 1) = ((i + 1 : Nat) : Int):=by rw [wrap_small _ (by omega) (by omega)]; omega
         clear hTh
         by_cases hk1 : x.f1 = 1
         ·have hkb : (x.f1 == 1) = true:=by simp [hk1]
          have hle:=cntD_le (l.take i) x.f0
          have hll : (l.take i).length ≤ 1024:=by rw [List.length_take]; omega
          have hq1:=hMI2.lookup x.f0 (Nat.le_trans HSZ.out (by decide))
          obtain ⟨w5,hq2,hMI5,hg5⟩:=hMI2.update x.f0 (Nat.le_trans HSZ.out (by decide)) (cntD (l.take i) x.f0 + 1) (by simp [Lit.wf,IntKind.min,IntKind.max,IntKind.signed,IntKind.bits]; omega) (by unfold maxLen; omega)
          have hw2 : IntKind.i64.wrap (cntD (l.take i) x.f0 + 1) = cntD (l.take i) x.f0 + 1:=wrap64_same (by omega) (by omega)
          have HM5 : Aside0 (MapI w5 w.heap.size (i + 1) (cntD (l.take (i + 1)))):=⟨by
           rw [htk.out,show cntD (l.take i ++ [x]) = fun t => if t = x.f0 then cntD (l.take i) x.f0 + 1 else cntD (l.take i) t from by funext t; rw [cntD_snoc]; simp [hk1]]
           exact hMI5⟩
          have HB5 : Aside0 (Below w.heap.size w w5):=⟨Below.grown HS2.out hg5 HS2.out.size (fun k hk => by have:=Option.some.inj hk; omega)⟩
          have HK1:=Aside0.mk hk1
          clear hMI2 hMI5 hg5 hle hll hk1 hXB2
          go_wp2
          go_roundg (l.length - (i + 1))
          case measure => omega
          case rel => exact ⟨i + 1,by first | rfl | (rw [hwi]),by omega,HB5,HM5,hS'⟩
         ·have hkb : (x.f1 == 1) = false:=by simp [hk1]
          have HM5 : Aside0 (MapI W2 w.heap.size (i + 1) (cntD (l.take (i + 1)))):=⟨by
           rw [htk.out,show cntD (l.take i ++ [x]) = cntD (l.take i) from by funext t; rw [cntD_snoc]; simp [hk1]]
           exact hMI2.mono (by omega)⟩
          have HK1:=Aside0.mk hk1
          clear hMI2 hk1 hXB2
          go_wp2
          go_roundg (l.length - (i + 1))
          case measure => omega
          case rel => exact ⟨i + 1,by first | rfl | (rw [hwi]),by omega,HS2,HM5,hS'⟩
   ·have hie : i = l.length:=by omega
    have hdb : decide ((i : Int) < (l.length : Int)) = false:=decide_eq_false (by omega)
    have hTt : Aside0 (T = true):=⟨by rw [← HT.out,← S1.out,hie,List.take_length]⟩
    go_wp2
    go_ret
    exact ⟨by rw [hTt.out]; rfl,B1.out⟩
 ·have hb1 : decide ((1024 : Int) < (l.length : Int)) = true:=decide_eq_true (by omega)
  have ht : treeB l = false:=by unfold treeB; rw [decide_eq_false hbig,Bool.false_and]
  rw [ht]
  clear ht
  go_enter Tryz.func51,Tryz.ntmps51
  go_wp2
  go_ret
  exact ⟨rfl,Below.refl _ _⟩
structure Fit (l : List S41) : Prop where
 s : ∀ x ∈ l,x.f0.size ≤ 1000000000000
 n : ∀ x ∈ l,x.f2.length ≤ 1000000000
 t : ∀ x ∈ l,∀ s ∈ x.f2,s.size ≤ 1000000000
structure FitP (p : S25) : Prop where
 ok : Okp p
 n5 : p.f5.length ≤ 1000000000
 n6 : p.f6.length ≤ 1000000000
 t2 : p.f2.size ≤ 100000
theorem primRight_at (p : S25) (hp : Okp p) (A5 : Option Addr) (c5 : Nat) (A6 : Option Addr) (c6 : Nat) (w : World) (g5 : Kd.string.C w A5 p.f5.length p.f5) (l5 : p.f5.length ≤ c5) (g6 : Kd.string.C w A6 p.f6.length p.f6) (l6 : p.f6.length ≤ c6) :
  Calls Tryz.prog 25 #[.agg #[.int .i64 p.f0,.string p.f1,.string p.f2,.string p.f3,.int .i64 p.f4,.slice A5 p.f5.length c5,.slice A6 p.f6.length c6]] w fun e w' => e = .returned (.bool (primB p)) ∧ Below w.heap.size w w':=by
 obtain ⟨K,hK⟩:=prim_right p hp
 exact prim_Right.calls K _ _ _ _ _ A5 c5 _ A6 c6 _ _ w g5 l5 g6 l6 (hK K (Nat.le_refl _))
theorem prim_kind {p : S25} (h : primB p = true) : 1 ≤ p.f0 ∧ p.f0 ≤ 10:=by
 unfold primB at h
 rw [Bool.and_eq_true] at h
 have hk:=h.2
 unfold kindB at hk
 by_cases h8 : p.f0 = 8
 ·omega
 rw [if_neg h8] at hk
 by_cases h9 : p.f0 = 9
 ·omega
 rw [if_neg h9] at hk
 split at hk
 ·by_cases h10 : p.f0 = 10
  ·omega
  rw [if_neg h10] at hk
  by_cases h7 : p.f0 = 7
  ·omega
  rw [if_neg h7] at hk
  simp only [Bool.and_eq_true,decide_eq_true_eq] at hk
  omega
 ·cases hk
def DoesH (k : Int) (B7 B8 B9 : Nat) (l : List S41) (A : Option Addr) (c : Nat) (pv : Value) (w : World) (Q : Ending → World → Prop) : Prop :=
 (k = 1 ∨ k = 3 ∨ k = 5 → Calls Tryz.prog 52 #[.slice A l.length c,pv] w Q) ∧ (k = 2 ∨ k = 4 ∨ k = 6 → Calls Tryz.prog 53 #[.slice A l.length c,pv] w Q) ∧
 (k = 7 → Calls Tryz.prog 100 #[.slice A l.length c,pv,.pointer (some ⟨B7,0,none⟩)] w Q) ∧ (k = 8 → Calls Tryz.prog 100 #[.slice A l.length c,pv,.pointer (some ⟨B8,0,none⟩)] w Q) ∧
 (k = 9 → Calls Tryz.prog 100 #[.slice A l.length c,pv,.pointer (some ⟨B9,0,none⟩)] w Q) ∧ (k = 10 → Calls Tryz.prog 58 #[.slice A l.length c,pv] w Q)
theorem does_at (l : List S41) (A : Option Addr) (c : Nat) (p : S25) (A5 : Option Addr) (c5 : Nat) (A6 : Option Addr) (c6 : Nat) (w : World) (B7 B8 B9 : Nat) (hr : Kd.C k41 w A l.length l)
  (g5 : Kd.string.C w A5 p.f5.length p.f5) (l5 : p.f5.length ≤ c5) (g6 : Kd.string.C w A6 p.f6.length p.f6) (l6 : p.f6.length ≤ c6) (hf : Fit l) (hp : FitP p) (ht : treeB l = true) (hq : primB p = true)
  (h7 : w.heap[B7]? = some (.cells #[.func (.func 55) #[] #[]] 76 (0,0))) (h8 : w.heap[B8]? = some (.cells #[.func (.func 56) #[] #[]] 76 (0,0))) (h9 : w.heap[B9]? = some (.cells #[.func (.func 57) #[] #[]] 76 (0,0))) :
  DoesH p.f0 B7 B8 B9 l A c (.agg #[.int .i64 p.f0,.string p.f1,.string p.f2,.string p.f3,.int .i64 p.f4,.slice A5 p.f5.length c5,.slice A6 p.f6.length c6]) w (Ans w (doL l p) (doE l p)):=by
 have hT:=tree_iff.1 ht
 have hs:=hT.s
 have hl : l.length ≤ 1000000000:=by have:=hT.n; omega
 have h1 : p.f1.size ≤ 1000000000000:=Nat.le_trans (right_size (prim_path hq)) (by decide)
 have fm : ∀ {x : S41},findV l p.f1 = some x → x ∈ l:=fun h => (find_mem h).1
 refine ⟨fun hk => ?_,fun hk => ?_,fun hk => ?_,fun hk => ?_,fun hk => ?_,fun hk => ?_⟩
 ·have e1 : doL l p = insL l (newE p):=by unfold doL; rw [if_neg (by omega),if_neg (by omega),if_pos hk]
  have e2 : doE l p = addE l p:=by unfold doE; rw [if_neg (by omega),if_neg (by omega),if_pos hk]
  rw [e1,e2]
  exact add_at l A c p _ _ w rfl rfl hr hl hs (by omega) (by omega) h1
 ·have e1 : doL l p = delL l p.f1:=by unfold doL; rw [if_neg (by omega),if_neg (by omega),if_neg (by omega)]
  have e2 : doE l p = removeE l p.f1 p.f0:=by unfold doE; rw [if_neg (by omega),if_neg (by omega),if_neg (by omega)]
  rw [e1,e2]
  exact remove_at l A c p.f0 p.f1 _ _ _ _ _ w rfl rfl rfl rfl rfl hr hl hs (by omega) (by omega)
 ·have e1 : doL l p = changeL l p:=by unfold doL; rw [if_neg (by omega),if_pos (by omega)]
  have e2 : doE l p = changeE l p:=by unfold doE; rw [if_neg (by omega),if_pos (by omega)]
  rw [e1,e2]
  obtain ⟨_,_,a0,a1,_⟩:=prim_lines hq hk
  refine changing55_at l A c p _ _ B7 w rfl rfl hr hl hs (by omega) (by omega) h7 ?_
  intro u x X d g o cur W hx hkx hu hW hg0 hg hent hre
  exact hunk_at u p A5 c5 A6 c6 x X d g o cur W hk a0 a1 (Kd.C_below g5 hu) l5 (Kd.C_below g6 hu) l6 hp.n5 hp.n6 (hf.n _ (fm hx)) hW hg0 hg hent hre
 ·have e1 : doL l p = changeL l p:=by unfold doL; rw [if_neg (by omega),if_pos (by omega)]
  have e2 : doE l p = changeE l p:=by unfold doE; rw [if_neg (by omega),if_pos (by omega)]
  rw [e1,e2]
  refine changing56_at l A c p _ _ B8 w rfl rfl hr hl hs (by omega) (by omega) h8 ?_
  intro u x X d g o cur W hx hkx hu hW hg0 hg hent hre
  exact token_at u p _ _ x X d g o cur W rfl rfl hk (prim_token hq hk).1 hp.t2 (hf.n _ (fm hx)) (hf.t _ (fm hx)) hW hg0 hg hent hre
 ·have e1 : doL l p = changeL l p:=by unfold doL; rw [if_neg (by omega),if_pos (by omega)]
  have e2 : doE l p = changeE l p:=by unfold doE; rw [if_neg (by omega),if_pos (by omega)]
  rw [e1,e2]
  refine changing57_at l A c p _ _ B9 w rfl rfl hr hl hs (by omega) (by omega) h9 ?_
  intro u x X d g o cur W hx hkx hu hW hg0 hg hent hre
  exact data_at u p _ _ x X d g o cur W rfl rfl hk hW hg0 hg hent hre
 ·have e1 : doL l p = moveL l p:=by unfold doL; rw [if_pos hk]
  have e2 : doE l p = moveE l p:=by unfold doE; rw [if_pos hk]
  rw [e1,e2]
  exact move_at l A c p _ _ w rfl rfl hr hT hq hk
theorem ans_calls {f : Nat} {args : Array Value} {w u : World} {M : List S41} {E : Int} (h : Calls Tryz.prog f args w (Ans u M E)) :
  Calls Tryz.prog f args w fun e w' => ∃ S,e = .returned (.tuple #[S,.int .i64 E]) ∧ Ans u M E (.returned (.tuple #[S,.int .i64 E])) w':=by
 refine h.mono ?_
 intro e w' ha
 obtain ⟨hb,hi⟩:=ha
 by_cases hE : E = 0
 ·rw [if_pos hE] at hi
  obtain ⟨A,c,rfl,hl,hC⟩:=hi
  exact ⟨_,by rw [hE],hb,by rw [if_pos hE]; exact ⟨A,c,by rw [hE],hl,hC⟩⟩
 ·rw [if_neg hE] at hi
  exact ⟨_,hi,hb,by rw [if_neg hE]⟩
def tableV (v7 v8 v9 : Value) : Array Value:=#[.nilFunc,.func (.func 52) #[] #[],.func (.func 53) #[] #[],.func (.func 52) #[] #[],.func (.func 53) #[] #[],.func (.func 52) #[] #[],.func (.func 53) #[] #[],v7,v8,v9,.func (.func 58) #[] #[]]
theorem table_stores (w : World) (b7 b8 b9 : Nat) : (storeCells ⟨w.heap.size,0,none⟩ (tableV (.func (.func 100) #[] #[.pointer (some ⟨b7,0,none⟩)]) (.func (.func 100) #[] #[.pointer (some ⟨b8,0,none⟩)]) (.func (.func 100) #[] #[.pointer (some ⟨b9,0,none⟩)])).toList).run Tryz.prog
  (w.alloc (.cells #[.nilFunc,.nilFunc,.nilFunc,.nilFunc,.nilFunc,.nilFunc,.nilFunc,.nilFunc,.nilFunc,.nilFunc,.nilFunc] 77)) =
  .ok () (w.alloc (.cells (tableV (.func (.func 100) #[] #[.pointer (some ⟨b7,0,none⟩)]) (.func (.func 100) #[] #[.pointer (some ⟨b8,0,none⟩)]) (.func (.func 100) #[] #[.pointer (some ⟨b9,0,none⟩)])) 77)) :=
 run_storeCells_new w 77 _ _ (by kernel_rfl) rfl (by simp [tableV,Value.oneCell'])
set_option maxHeartbeats 4000000 in
set_option maxRecDepth 1000000 in
theorem apply_at (l : List S41) (A : Option Addr) (c : Nat) (p : S25) (A5 : Option Addr) (c5 : Nat) (A6 : Option Addr) (c6 : Nat) (w : World) (hr : Kd.C k41 w A l.length l)
  (g5 : Kd.string.C w A5 p.f5.length p.f5) (l5 : p.f5.length ≤ c5) (g6 : Kd.string.C w A6 p.f6.length p.f6) (l6 : p.f6.length ≤ c6) (hf : Fit l) (hp : FitP p) :
  Calls Tryz.prog 23 #[.slice A l.length c,.agg #[.int .i64 p.f0,.string p.f1,.string p.f2,.string p.f3,.int .i64 p.f4,.slice A5 p.f5.length c5,.slice A6 p.f6.length c6]] w (Ans w (doL l p) (applyE l p)):=by
 obtain ⟨W,hW⟩ : ∃ W,W = w.alloc (.cells #[.int .i64 p.f0,.string p.f1,.string p.f2,.string p.f3,.int .i64 p.f4,.slice A5 p.f5.length c5,.slice A6 p.f6.length c6] 25):=⟨_,rfl⟩
 have hB : Below w.heap.size w W:=by rw [hW]; exact below_alloc (Below.refl _ _) _
 obtain ⟨b0,b1,b2,b3,b4,b5,b6⟩:=cells7 (show W.heap[w.heap.size]? = _ by rw [hW]; exact blk_new w (.cells #[.int .i64 p.f0,.string p.f1,.string p.f2,.string p.f3,.int .i64 p.f4,.slice A5 p.f5.length c5,.slice A6 p.f6.length c6] 25))
 have hT:=tree_at l A c W (Kd.C_below hr hB) hf.s
 have hP:=fun U (h : Below w.heap.size w U) => primRight_at p hp.ok A5 c5 A6 c6 U (Kd.C_below g5 h) l5 (Kd.C_below g6 h) l6
 obtain ⟨t,ht⟩ : ∃ t,treeB l = t:=⟨_,rfl⟩
 obtain ⟨q,hq⟩ : ∃ q,primB p = q:=⟨_,rfl⟩
 rw [ht] at hT
 rw [hq] at hP
 have hno : ∀ U,(t && q) = false → Below w.heap.size w U → Ans w (doL l p) (applyE l p) (.returned (.tuple #[.slice none 0 0,.int .i64 1])) U:=by
  intro U h hb
  have e : applyE l p = 1:=by unfold applyE; rw [ht,hq,h]; rfl
  refine ⟨hb,?_⟩
  rw [e,if_neg (by decide)]
 have HT:=Aside0.mk hT
 have HP:=Aside0.mk hP
 have HNO:=Aside0.mk hno
 have HB:=Aside0.mk hB
 have HR:=Aside0.mk hr
 have G5:=Aside0.mk g5
 have G6:=Aside0.mk g6
 have L5:=Aside0.mk l5
 have L6:=Aside0.mk l6
 have HF:=Aside0.mk hf
 have HPP:=Aside0.mk hp
 have HTR:=Aside0.mk ht
 have HQR:=Aside0.mk hq
 clear hT hP hno hB hr g5 l5 g6 l6 hf hp ht hq
 cases t with
 | false =>
  go_enter Tryz.func23,Tryz.ntmps23
  rw [hW] at HT HB
  go_wp2_with (go_at_call 51; refine HT.out.mono ?_; rintro e w1 ⟨rfl,hb1⟩)
  go_ret2
  exact HNO.out _ rfl (HB.out.trans (hb1.mono HB.out.size))
 | true =>
  subst hW
  cases q with
  | false =>
   go_enter Tryz.func23,Tryz.ntmps23
   go_wp2_with (first
    | (go_at_call 51; refine HT.out.mono ?_; rintro e w1 ⟨rfl,hb1⟩; have d0:=pw_cell_below hb1 b0; have d1:=pw_cell_below hb1 b1; have d2:=pw_cell_below hb1 b2; have d3:=pw_cell_below hb1 b3; have d4:=pw_cell_below hb1 b4; have d5:=pw_cell_below hb1 b5; have d6:=pw_cell_below hb1 b6)
    | (go_at_call 25; refine (HP.out _ (HB.out.trans (hb1.mono HB.out.size))).mono ?_; rintro e w2 ⟨rfl,hb2⟩))
   go_ret2
   exact HNO.out _ rfl ((HB.out.trans (hb1.mono HB.out.size)).trans (hb2.mono (HB.out.trans (hb1.mono HB.out.size)).size))
  | true =>
   go_enter Tryz.func23,Tryz.ntmps23
   go_wp2_with (first
    | (go_at_call 51; refine HT.out.mono ?_; rintro e w1 ⟨rfl,hb1⟩; have d0:=pw_cell_below hb1 b0; have d1:=pw_cell_below hb1 b1; have d2:=pw_cell_below hb1 b2; have d3:=pw_cell_below hb1 b3; have d4:=pw_cell_below hb1 b4; have d5:=pw_cell_below hb1 b5; have d6:=pw_cell_below hb1 b6)
    | (go_at_call 25; refine (HP.out _ (HB.out.trans (hb1.mono HB.out.size))).mono ?_; rintro e w2 ⟨rfl,hb2⟩; replace d0:=pw_cell_below hb2 d0; replace d1:=pw_cell_below hb2 d1; replace d2:=pw_cell_below hb2 d2; replace d3:=pw_cell_below hb2 d3; replace d4:=pw_cell_below hb2 d4; replace d5:=pw_cell_below hb2 d5; replace d6:=pw_cell_below hb2 d6)
    | (go_at_call 54; refine (changing_calls 55 _).mono ?_; rintro e w7 ⟨rfl,k7,hb7⟩)
    | (go_at_call 54; refine (changing_calls 56 _).mono ?_; rintro e w8 ⟨rfl,k8,hb8⟩)
    | (go_at_call 54; refine (changing_calls 57 _).mono ?_; rintro e w9 ⟨rfl,k9,hb9⟩))
   have hst:=table_stores w9 w2.heap.size w7.heap.size w8.heap.size
   simp [tableV,storeCells,Addr.add,go_sem] at hst
   rw [hst]
   simp only [Result.andThen]
   rw [Oper.upon_skip]
   clear hst
   have hBw9 : Below w2.heap.size w2 w9:=(hb7.trans (hb8.mono hb7.size)).trans (hb9.mono (hb7.trans (hb8.mono hb7.size)).size)
   have k7':=blk_below (blk_below k7 hb8) hb9
   have k8':=blk_below k8 hb9
   obtain ⟨TV,hTV⟩ : ∃ TV,TV = tableV (.func (.func 100) #[] #[.pointer (some ⟨w2.heap.size,0,none⟩)]) (.func (.func 100) #[] #[.pointer (some ⟨w7.heap.size,0,none⟩)]) (.func (.func 100) #[] #[.pointer (some ⟨w8.heap.size,0,none⟩)]):=⟨_,rfl⟩
   unfold tableV at hTV
   rw [← hTV]
   obtain ⟨V,hV⟩ : ∃ V,V = w9.alloc (.cells TV 77):=⟨_,rfl⟩
   rw [← hV]
   have hBV : Below w2.heap.size w2 V:=by rw [hV]; exact below_alloc hBw9 _
   have kT : V.heap[w9.heap.size]? = some (.cells TV 77 (0,0)):=by rw [hV]; exact blk_new w9 (.cells TV 77)
   have k7V : V.heap[w2.heap.size]? = some (.cells #[.func (.func 55) #[] #[]] 76 (0,0)):=by rw [hV]; exact blk_alloc k7' _
   have k8V : V.heap[w7.heap.size]? = some (.cells #[.func (.func 56) #[] #[]] 76 (0,0)):=by rw [hV]; exact blk_alloc k8' _
   have k9V : V.heap[w8.heap.size]? = some (.cells #[.func (.func 57) #[] #[]] 76 (0,0)):=by rw [hV]; exact blk_alloc k9 _
   have hBw2 : Below w.heap.size w w2:=(HB.out.trans (hb1.mono HB.out.size)).trans (hb2.mono (HB.out.trans (hb1.mono HB.out.size)).size)
   have HBV : Aside0 (Below w.heap.size w V):=⟨hBw2.trans (hBV.mono hBw2.size)⟩
   replace d0:=pw_cell_below hBV d0
   replace d1:=pw_cell_below hBV d1
   replace d2:=pw_cell_below hBV d2
   replace d3:=pw_cell_below hBV d3
   replace d4:=pw_cell_below hBV d4
   replace d5:=pw_cell_below hBV d5
   replace d6:=pw_cell_below hBV d6
   have hk0:=prim_kind HQR.out
   have hbd:=below_drew HBV.out
   have hdo:=does_at l A c p A5 c5 A6 c6 V.drew w2.heap.size w7.heap.size w8.heap.size (Kd.C_below HR.out hbd) (Kd.C_below G5.out hbd) L5.out (Kd.C_below G6.out hbd) L6.out HF.out HPP.out HTR.out HQR.out (blk_drew k7V) (blk_drew k8V) (blk_drew k9V)
   have happ : Aside0 (applyE l p = doE l p):=⟨by unfold applyE; rw [HTR.out,HQR.out]; rfl⟩
   obtain ⟨D,hD⟩ : ∃ D,D = w9.heap.size:=⟨_,rfl⟩
   rw [← hD] at kT ⊢
   obtain ⟨B7,hB7⟩ : ∃ B7,B7 = w2.heap.size:=⟨_,rfl⟩
   obtain ⟨B8,hB8⟩ : ∃ B8,B8 = w7.heap.size:=⟨_,rfl⟩
   obtain ⟨B9,hB9⟩ : ∃ B9,B9 = w8.heap.size:=⟨_,rfl⟩
   rw [← hB7,← hB8,← hB9] at hTV hdo
   have hfin : Aside0 (∀ S w',Ans V.drew (doL l p) (doE l p) (.returned (.tuple #[S,.int .i64 (doE l p)])) w' → Ans w (doL l p) (applyE l p) (.returned (.tuple #[S,.int .i64 (doE l p)])) w'):=⟨fun S w' h => by
    rw [happ.out]
    exact ⟨(below_drew HBV.out).trans (h.1.mono HBV.out.size),h.2⟩⟩
   obtain ⟨E,hE⟩ : ∃ E,doE l p = E:=⟨_,rfl⟩
   rw [hE] at hdo hfin
   have hTc : ∀ j v,TV[j]? = some v → V.cell? ⟨D,j,none⟩ = some v:=fun j v h => (Lib.cell_of_heap kT j).trans h
   have hkk : p.f0 = 1 ∨ p.f0 = 2 ∨ p.f0 = 3 ∨ p.f0 = 4 ∨ p.f0 = 5 ∨ p.f0 = 6 ∨ p.f0 = 7 ∨ p.f0 = 8 ∨ p.f0 = 9 ∨ p.f0 = 10:=by omega
   replace hBV:=Aside0.mk hBV
   replace hTV:=Aside0.mk hTV
   clear hbd b0 b1 b2 b3 b4 b5 b6 hk0 kT k7V k8V k9V k7' k8' k7 k8 k9 hBw9 hBw2 hb1 hb2 hb7 hb8 hb9 hV hD hB7 hB8 hB9 happ hE HT HP HNO
   rcases hkk with hk | hk | hk | hk | hk | hk | hk | hk | hk | hk
   ·rw [hk] at d0 hdo
    have hC:=hdo.1 (.inl rfl)
    have tc:=hTc 1 _ (by rw [hTV.out]; rfl)
    clear hdo hTc hk
    go_upto_region 4 with (fail)
    go_region_held3 (fun U => U.cell? ⟨w.heap.size,0,none⟩ = some (.int .i64 1) ∧ U.cell? ⟨w.heap.size,1,none⟩ = some (.string p.f1) ∧ U.cell? ⟨w.heap.size,2,none⟩ = some (.string p.f2) ∧ U.cell? ⟨w.heap.size,3,none⟩ = some (.string p.f3) ∧ U.cell? ⟨w.heap.size,4,none⟩ = some (.int .i64 p.f4) ∧ U.cell? ⟨w.heap.size,5,none⟩ = some (.slice A5 p.f5.length c5) ∧ U.cell? ⟨w.heap.size,6,none⟩ = some (.slice A6 p.f6.length c6) ∧ U.cell? ⟨D,1,none⟩ = some (.func (.func 52) #[] #[])) (first | exact ⟨d0,d1,d2,d3,d4,d5,d6,tc⟩ | exact ⟨pw_cell_below hb d0,pw_cell_below hb d1,pw_cell_below hb d2,pw_cell_below hb d3,pw_cell_below hb d4,pw_cell_below hb d5,pw_cell_below hb d6,pw_cell_below hb tc⟩) ((go_at_call 52; refine (ans_calls hC).mono ?_; rintro e w3 ⟨S,rfl,hans⟩; have hb:=hans.1; replace hans:=Aside0.mk hans))
    all_goals go_wp2
    all_goals go_ret2
    all_goals exact hfin.out _ _ hans.out
   ·rw [hk] at d0 hdo
    have hC:=hdo.2.1 (.inl rfl)
    have tc:=hTc 2 _ (by rw [hTV.out]; rfl)
    clear hdo hTc hk
    go_upto_region 4 with (fail)
    go_region_held3 (fun U => U.cell? ⟨w.heap.size,0,none⟩ = some (.int .i64 2) ∧ U.cell? ⟨w.heap.size,1,none⟩ = some (.string p.f1) ∧ U.cell? ⟨w.heap.size,2,none⟩ = some (.string p.f2) ∧ U.cell? ⟨w.heap.size,3,none⟩ = some (.string p.f3) ∧ U.cell? ⟨w.heap.size,4,none⟩ = some (.int .i64 p.f4) ∧ U.cell? ⟨w.heap.size,5,none⟩ = some (.slice A5 p.f5.length c5) ∧ U.cell? ⟨w.heap.size,6,none⟩ = some (.slice A6 p.f6.length c6) ∧ U.cell? ⟨D,2,none⟩ = some (.func (.func 53) #[] #[])) (first | exact ⟨d0,d1,d2,d3,d4,d5,d6,tc⟩ | exact ⟨pw_cell_below hb d0,pw_cell_below hb d1,pw_cell_below hb d2,pw_cell_below hb d3,pw_cell_below hb d4,pw_cell_below hb d5,pw_cell_below hb d6,pw_cell_below hb tc⟩) ((go_at_call 53; refine (ans_calls hC).mono ?_; rintro e w3 ⟨S,rfl,hans⟩; have hb:=hans.1; replace hans:=Aside0.mk hans))
    all_goals go_wp2
    all_goals go_ret2
    all_goals exact hfin.out _ _ hans.out
   ·rw [hk] at d0 hdo
    have hC:=hdo.1 (.inr (.inl rfl))
    have tc:=hTc 3 _ (by rw [hTV.out]; rfl)
    clear hdo hTc hk
    go_upto_region 4 with (fail)
    go_region_held3 (fun U => U.cell? ⟨w.heap.size,0,none⟩ = some (.int .i64 3) ∧ U.cell? ⟨w.heap.size,1,none⟩ = some (.string p.f1) ∧ U.cell? ⟨w.heap.size,2,none⟩ = some (.string p.f2) ∧ U.cell? ⟨w.heap.size,3,none⟩ = some (.string p.f3) ∧ U.cell? ⟨w.heap.size,4,none⟩ = some (.int .i64 p.f4) ∧ U.cell? ⟨w.heap.size,5,none⟩ = some (.slice A5 p.f5.length c5) ∧ U.cell? ⟨w.heap.size,6,none⟩ = some (.slice A6 p.f6.length c6) ∧ U.cell? ⟨D,3,none⟩ = some (.func (.func 52) #[] #[])) (first | exact ⟨d0,d1,d2,d3,d4,d5,d6,tc⟩ | exact ⟨pw_cell_below hb d0,pw_cell_below hb d1,pw_cell_below hb d2,pw_cell_below hb d3,pw_cell_below hb d4,pw_cell_below hb d5,pw_cell_below hb d6,pw_cell_below hb tc⟩) ((go_at_call 52; refine (ans_calls hC).mono ?_; rintro e w3 ⟨S,rfl,hans⟩; have hb:=hans.1; replace hans:=Aside0.mk hans))
    all_goals go_wp2
    all_goals go_ret2
    all_goals exact hfin.out _ _ hans.out
   ·rw [hk] at d0 hdo
    have hC:=hdo.2.1 (.inr (.inl rfl))
    have tc:=hTc 4 _ (by rw [hTV.out]; rfl)
    clear hdo hTc hk
    go_upto_region 4 with (fail)
    go_region_held3 (fun U => U.cell? ⟨w.heap.size,0,none⟩ = some (.int .i64 4) ∧ U.cell? ⟨w.heap.size,1,none⟩ = some (.string p.f1) ∧ U.cell? ⟨w.heap.size,2,none⟩ = some (.string p.f2) ∧ U.cell? ⟨w.heap.size,3,none⟩ = some (.string p.f3) ∧ U.cell? ⟨w.heap.size,4,none⟩ = some (.int .i64 p.f4) ∧ U.cell? ⟨w.heap.size,5,none⟩ = some (.slice A5 p.f5.length c5) ∧ U.cell? ⟨w.heap.size,6,none⟩ = some (.slice A6 p.f6.length c6) ∧ U.cell? ⟨D,4,none⟩ = some (.func (.func 53) #[] #[])) (first | exact ⟨d0,d1,d2,d3,d4,d5,d6,tc⟩ | exact ⟨pw_cell_below hb d0,pw_cell_below hb d1,pw_cell_below hb d2,pw_cell_below hb d3,pw_cell_below hb d4,pw_cell_below hb d5,pw_cell_below hb d6,pw_cell_below hb tc⟩) ((go_at_call 53; refine (ans_calls hC).mono ?_; rintro e w3 ⟨S,rfl,hans⟩; have hb:=hans.1; replace hans:=Aside0.mk hans))
    all_goals go_wp2
    all_goals go_ret2
    all_goals exact hfin.out _ _ hans.out
   ·rw [hk] at d0 hdo
    have hC:=hdo.1 (.inr (.inr rfl))
    have tc:=hTc 5 _ (by rw [hTV.out]; rfl)
    clear hdo hTc hk
    go_upto_region 4 with (fail)
    go_region_held3 (fun U => U.cell? ⟨w.heap.size,0,none⟩ = some (.int .i64 5) ∧ U.cell? ⟨w.heap.size,1,none⟩ = some (.string p.f1) ∧ U.cell? ⟨w.heap.size,2,none⟩ = some (.string p.f2) ∧ U.cell? ⟨w.heap.size,3,none⟩ = some (.string p.f3) ∧ U.cell? ⟨w.heap.size,4,none⟩ = some (.int .i64 p.f4) ∧ U.cell? ⟨w.heap.size,5,none⟩ = some (.slice A5 p.f5.length c5) ∧ U.cell? ⟨w.heap.size,6,none⟩ = some (.slice A6 p.f6.length c6) ∧ U.cell? ⟨D,5,none⟩ = some (.func (.func 52) #[] #[])) (first | exact ⟨d0,d1,d2,d3,d4,d5,d6,tc⟩ | exact ⟨pw_cell_below hb d0,pw_cell_below hb d1,pw_cell_below hb d2,pw_cell_below hb d3,pw_cell_below hb d4,pw_cell_below hb d5,pw_cell_below hb d6,pw_cell_below hb tc⟩) ((go_at_call 52; refine (ans_calls hC).mono ?_; rintro e w3 ⟨S,rfl,hans⟩; have hb:=hans.1; replace hans:=Aside0.mk hans))
    all_goals go_wp2
    all_goals go_ret2
    all_goals exact hfin.out _ _ hans.out
   ·rw [hk] at d0 hdo
    have hC:=hdo.2.1 (.inr (.inr rfl))
    have tc:=hTc 6 _ (by rw [hTV.out]; rfl)
    clear hdo hTc hk
    go_upto_region 4 with (fail)
    go_region_held3 (fun U => U.cell? ⟨w.heap.size,0,none⟩ = some (.int .i64 6) ∧ U.cell? ⟨w.heap.size,1,none⟩ = some (.string p.f1) ∧ U.cell? ⟨w.heap.size,2,none⟩ = some (.string p.f2) ∧ U.cell? ⟨w.heap.size,3,none⟩ = some (.string p.f3) ∧ U.cell? ⟨w.heap.size,4,none⟩ = some (.int .i64 p.f4) ∧ U.cell? ⟨w.heap.size,5,none⟩ = some (.slice A5 p.f5.length c5) ∧ U.cell? ⟨w.heap.size,6,none⟩ = some (.slice A6 p.f6.length c6) ∧ U.cell? ⟨D,6,none⟩ = some (.func (.func 53) #[] #[])) (first | exact ⟨d0,d1,d2,d3,d4,d5,d6,tc⟩ | exact ⟨pw_cell_below hb d0,pw_cell_below hb d1,pw_cell_below hb d2,pw_cell_below hb d3,pw_cell_below hb d4,pw_cell_below hb d5,pw_cell_below hb d6,pw_cell_below hb tc⟩) ((go_at_call 53; refine (ans_calls hC).mono ?_; rintro e w3 ⟨S,rfl,hans⟩; have hb:=hans.1; replace hans:=Aside0.mk hans))
    all_goals go_wp2
    all_goals go_ret2
    all_goals exact hfin.out _ _ hans.out
   ·rw [hk] at d0 hdo
    have hC:=hdo.2.2.1 rfl
    have tc:=hTc 7 _ (by rw [hTV.out]; rfl)
    clear hdo hTc hk
    go_upto_region 4 with (fail)
    go_region_held3 (fun U => U.cell? ⟨w.heap.size,0,none⟩ = some (.int .i64 7) ∧ U.cell? ⟨w.heap.size,1,none⟩ = some (.string p.f1) ∧ U.cell? ⟨w.heap.size,2,none⟩ = some (.string p.f2) ∧ U.cell? ⟨w.heap.size,3,none⟩ = some (.string p.f3) ∧ U.cell? ⟨w.heap.size,4,none⟩ = some (.int .i64 p.f4) ∧ U.cell? ⟨w.heap.size,5,none⟩ = some (.slice A5 p.f5.length c5) ∧ U.cell? ⟨w.heap.size,6,none⟩ = some (.slice A6 p.f6.length c6) ∧ U.cell? ⟨D,7,none⟩ = some (.func (.func 100) #[] #[.pointer (some ⟨B7,0,none⟩)])) (first | exact ⟨d0,d1,d2,d3,d4,d5,d6,tc⟩ | exact ⟨pw_cell_below hb d0,pw_cell_below hb d1,pw_cell_below hb d2,pw_cell_below hb d3,pw_cell_below hb d4,pw_cell_below hb d5,pw_cell_below hb d6,pw_cell_below hb tc⟩) ((go_at_call 100; refine (ans_calls hC).mono ?_; rintro e w3 ⟨S,rfl,hans⟩; have hb:=hans.1; replace hans:=Aside0.mk hans))
    all_goals go_wp2
    all_goals go_ret2
    all_goals exact hfin.out _ _ hans.out
   ·rw [hk] at d0 hdo
    have hC:=hdo.2.2.2.1 rfl
    have tc:=hTc 8 _ (by rw [hTV.out]; rfl)
    clear hdo hTc hk
    go_upto_region 4 with (fail)
    go_region_held3 (fun U => U.cell? ⟨w.heap.size,0,none⟩ = some (.int .i64 8) ∧ U.cell? ⟨w.heap.size,1,none⟩ = some (.string p.f1) ∧ U.cell? ⟨w.heap.size,2,none⟩ = some (.string p.f2) ∧ U.cell? ⟨w.heap.size,3,none⟩ = some (.string p.f3) ∧ U.cell? ⟨w.heap.size,4,none⟩ = some (.int .i64 p.f4) ∧ U.cell? ⟨w.heap.size,5,none⟩ = some (.slice A5 p.f5.length c5) ∧ U.cell? ⟨w.heap.size,6,none⟩ = some (.slice A6 p.f6.length c6) ∧ U.cell? ⟨D,8,none⟩ = some (.func (.func 100) #[] #[.pointer (some ⟨B8,0,none⟩)])) (first | exact ⟨d0,d1,d2,d3,d4,d5,d6,tc⟩ | exact ⟨pw_cell_below hb d0,pw_cell_below hb d1,pw_cell_below hb d2,pw_cell_below hb d3,pw_cell_below hb d4,pw_cell_below hb d5,pw_cell_below hb d6,pw_cell_below hb tc⟩) ((go_at_call 100; refine (ans_calls hC).mono ?_; rintro e w3 ⟨S,rfl,hans⟩; have hb:=hans.1; replace hans:=Aside0.mk hans))
    all_goals go_wp2
    all_goals go_ret2
    all_goals exact hfin.out _ _ hans.out
   ·rw [hk] at d0 hdo
    have hC:=hdo.2.2.2.2.1 rfl
    have tc:=hTc 9 _ (by rw [hTV.out]; rfl)
    clear hdo hTc hk
    go_upto_region 4 with (fail)
    go_region_held3 (fun U => U.cell? ⟨w.heap.size,0,none⟩ = some (.int .i64 9) ∧ U.cell? ⟨w.heap.size,1,none⟩ = some (.string p.f1) ∧ U.cell? ⟨w.heap.size,2,none⟩ = some (.string p.f2) ∧ U.cell? ⟨w.heap.size,3,none⟩ = some (.string p.f3) ∧ U.cell? ⟨w.heap.size,4,none⟩ = some (.int .i64 p.f4) ∧ U.cell? ⟨w.heap.size,5,none⟩ = some (.slice A5 p.f5.length c5) ∧ U.cell? ⟨w.heap.size,6,none⟩ = some (.slice A6 p.f6.length c6) ∧ U.cell? ⟨D,9,none⟩ = some (.func (.func 100) #[] #[.pointer (some ⟨B9,0,none⟩)])) (first | exact ⟨d0,d1,d2,d3,d4,d5,d6,tc⟩ | exact ⟨pw_cell_below hb d0,pw_cell_below hb d1,pw_cell_below hb d2,pw_cell_below hb d3,pw_cell_below hb d4,pw_cell_below hb d5,pw_cell_below hb d6,pw_cell_below hb tc⟩) ((go_at_call 100; refine (ans_calls hC).mono ?_; rintro e w3 ⟨S,rfl,hans⟩; have hb:=hans.1; replace hans:=Aside0.mk hans))
    all_goals go_wp2
    all_goals go_ret2
    all_goals exact hfin.out _ _ hans.out
   ·rw [hk] at d0 hdo
    have hC:=hdo.2.2.2.2.2 rfl
    have tc:=hTc 10 _ (by rw [hTV.out]; rfl)
    clear hdo hTc hk
    go_upto_region 4 with (fail)
    go_region_held3 (fun U => U.cell? ⟨w.heap.size,0,none⟩ = some (.int .i64 10) ∧ U.cell? ⟨w.heap.size,1,none⟩ = some (.string p.f1) ∧ U.cell? ⟨w.heap.size,2,none⟩ = some (.string p.f2) ∧ U.cell? ⟨w.heap.size,3,none⟩ = some (.string p.f3) ∧ U.cell? ⟨w.heap.size,4,none⟩ = some (.int .i64 p.f4) ∧ U.cell? ⟨w.heap.size,5,none⟩ = some (.slice A5 p.f5.length c5) ∧ U.cell? ⟨w.heap.size,6,none⟩ = some (.slice A6 p.f6.length c6) ∧ U.cell? ⟨D,10,none⟩ = some (.func (.func 58) #[] #[])) (first | exact ⟨d0,d1,d2,d3,d4,d5,d6,tc⟩ | exact ⟨pw_cell_below hb d0,pw_cell_below hb d1,pw_cell_below hb d2,pw_cell_below hb d3,pw_cell_below hb d4,pw_cell_below hb d5,pw_cell_below hb d6,pw_cell_below hb tc⟩) ((go_at_call 58; refine (ans_calls hC).mono ?_; rintro e w3 ⟨S,rfl,hans⟩; have hb:=hans.1; replace hans:=Aside0.mk hans))
    all_goals go_wp2
    all_goals go_ret2
    all_goals exact hfin.out _ _ hans.out
def AnsA (w : World) (R : List S41 × Int × Nat) (e : Ending) (w' : World) : Prop :=
 Below w.heap.size w w' ∧ (if R.2.1 = 0 then ∃ A c,e = .returned (.tuple #[.slice A R.1.length c,.int .i64 0,.int .i64 (R.2.2 : Int)]) ∧ R.1.length ≤ c ∧ Kd.C k41 w' A R.1.length R.1
  else e = .returned (.tuple #[.slice none 0 0,.int .i64 R.2.1,.int .i64 (R.2.2 : Int)]))
theorem ans_two {f : Nat} {args : Array Value} {w u : World} {M : List S41} {E : Int} (h : Calls Tryz.prog f args w (Ans u M E)) :
  Calls Tryz.prog f args w fun e w' => ∃ S,e = .returned (.tuple #[S,.int .i64 E]) ∧ Below u.heap.size u w' ∧ (E = 0 → ∃ A c,S = .slice A M.length c ∧ M.length ≤ c ∧ Kd.C k41 w' A M.length M):=by
 refine h.mono ?_
 intro e w' ha
 obtain ⟨hb,hi⟩:=ha
 by_cases hE : E = 0
 ·rw [if_pos hE] at hi
  obtain ⟨A,c,rfl,hl,hC⟩:=hi
  exact ⟨_,by rw [hE],hb,fun _ => ⟨A,c,rfl,hl,hC⟩⟩
 ·rw [if_neg hE] at hi
  exact ⟨_,hi,hb,fun h => absurd h hE⟩
set_option maxHeartbeats 4000000 in
set_option maxRecDepth 1000000 in
theorem all_at (l : List S41) (A : Option Addr) (c : Nat) (ps : List S25) (P : Option Addr) (d : Nat) (w : World) (Inv : Nat → List S41 → Prop) (hr : Kd.C k41 w A l.length l) (hps : Kd.C k25 w P ps.length ps) (hs : ∀ x ∈ l,x.f0.size ≤ 1000000000000) (hn : ps.length ≤ 1000000000)
  (h0 : treeB l = true → Inv 0 l) (hI : ∀ i M p,ps[i]? = some p → Inv i M → Fit M ∧ FitP p ∧ (applyE M p = 0 → Inv (i + 1) (doL M p))) :
  Calls Tryz.prog 29 #[.slice A l.length c,.slice P ps.length d] w (AnsA w (allE l ps)):=by
 have hT:=tree_at l A c w hr hs
 obtain ⟨n,hN⟩ : ∃ n,ps.length = n:=⟨_,rfl⟩
 rw [hN] at hps hn ⊢
 have HR:=Aside0.mk hr
 have HPS:=Aside0.mk hps
 have HI:=Aside0.mk hI
 have H0:=Aside0.mk h0
 have HN:=Aside0.mk hN
 clear hr hps hs hI h0 hN
 cases ht : treeB l with
 | false =>
  rw [ht] at hT
  have he : Aside0 (allE l ps = ([],1,0)):=⟨by unfold allE; rw [ht]; rfl⟩
  clear ht
  go_enter Tryz.func29,Tryz.ntmps29
  go_wp2_with (go_at_call 51; refine hT.mono ?_; rintro e w1 ⟨rfl,hb⟩)
  go_ret3
  exact ⟨hb,by rw [he.out,if_neg (by decide)]; rfl⟩
 | true =>
  rw [ht] at hT
  have hl : l.length ≤ 1000000000:=by have:=(tree_iff.1 ht).n; omega
  have hcl:=fun W (h : Below w.heap.size w W) => clone_at w l A c W h hl (rows_rw HR.out h)
  replace hcl:=Aside0.mk hcl
  have he : Aside0 (allE l ps = allV l ps 0):=⟨by unfold allE; rw [ht]; rfl⟩
  have hi0:=Aside0.mk (H0.out ht)
  clear ht H0 HR hl
  go_enter Tryz.func29,Tryz.ntmps29
  go_wp2_with (first
   | (go_at_call 51; refine hT.mono ?_; rintro e w1 ⟨rfl,hb1⟩)
   | (go_at_call 73; refine (hcl.out _ hb1).mono ?_; rintro e w2 ⟨v,rfl,hrow,hb2,_⟩; obtain ⟨A',c',rfl,hc',hC⟩:=row_C hrow hb2; replace hC:=Aside0.mk hC; replace hb2:=Aside0.mk hb2; replace hc':=Aside0.mk hc'; clear hrow))
  go_loopg [0,18] n (fun kq u0 u18 w' => ∃ (i : Nat) (M : List S41) (A : Option Addr) (c : Nat),u18 = .int .i64 (i : Int) ∧ u0 = .slice A M.length c ∧ Aside0 (i + kq = n) ∧ Aside0 (Inv i M) ∧ Aside0 (allV M (ps.drop i) i = allV l ps 0) ∧ Aside0 (M.length ≤ c ∧ Kd.C k41 w' A M.length M) ∧ Aside0 (Below w.heap.size w w'))
  case atStart => exact ⟨0,l,A',c',rfl,rfl,⟨by omega⟩,hi0,⟨rfl⟩,⟨hc'.out,hC.out⟩,hb2⟩
  case round =>
   clear hi0 hC hb2 hc' hcl hT
   obtain ⟨i,M,AM,cM,rfl,rfl,hk,hinv,hall,hCM,hBM⟩:=hrel
   by_cases hi : i < n
   ·have hil : i < ps.length:=by rw [HN.out]; exact hi
    have hcmp : decide ((i : Int) < (n : Int)) = true:=decide_eq_true (by omega)
    have i0 : (0 : Int) ≤ (i : Int):=by omega
    have i1 : (i : Int) < (n : Int):=by omega
    have hwi : IntKind.i64.wrap ((i : Int) + 1) = (i : Int) + 1:=wrap_small _ (by omega) (by omega)
    obtain ⟨ad,A5,c5,A6,c6,hP,x0,x1,x2,x3,x4,x5,x6,l5,g5,l6,g6⟩:=at_T25 (Kd.C_below HPS.out hBM.out) (i : Int) i0 i1
    have hrd : rd_T25 ps (i : Int) = ps[i]:=by unfold rd_T25; rw [Int.toNat_natCast,List.getD_eq_getElem?_getD,List.getElem?_eq_getElem hil]; rfl
    have hpi : ps[i]? = some ps[i]:=List.getElem?_eq_getElem hil
    have hdrop : ps.drop i = ps[i] :: ps.drop (i + 1):=List.drop_eq_getElem_cons hil
    rw [hrd] at x0 x1 x2 x3 x4 x5 x6 l5 g5 l6 g6
    rw [Int.toNat_natCast] at x0 x1 x2 x3 x4 x5 x6
    obtain ⟨p,hp⟩ : ∃ p,ps[i] = p:=⟨_,rfl⟩
    rw [hp] at x0 x1 x2 x3 x4 x5 x6 l5 g5 l6 g6 hpi hdrop
    obtain ⟨hfit,hfp,hnext⟩:=HI.out i M p hpi hinv.out
    subst hP
    have hBp : Below wr.heap.size wr (wr.alloc (.cells #[.int .i64 p.f0,.string p.f1,.string p.f2,.string p.f3,.int .i64 p.f4,.slice A5 p.f5.length c5,.slice A6 p.f6.length c6] 25)):=below_alloc (Below.refl _ _) _
    have hA:=ans_two (apply_at M AM cM p A5 c5 A6 c6 _ (Kd.C_below hCM.out.2 hBp) (Kd.C_below g5 hBp) l5 (Kd.C_below g6 hBp) l6 hfit hfp)
    obtain ⟨q0,q1,q2,q3,q4,q5,q6⟩:=cells7 (blk_new wr (.cells #[.int .i64 p.f0,.string p.f1,.string p.f2,.string p.f3,.int .i64 p.f4,.slice A5 p.f5.length c5,.slice A6 p.f6.length c6] 25))
    replace hA:=Aside0.mk hA
    replace hnext:=Aside0.mk hnext
    replace hdrop:=Aside0.mk hdrop
    replace hBp:=Aside0.mk hBp
    clear hfit hfp l5 g5 l6 g6 hp hpi hrd
    go_upto_region 7 with (fail)
    clear x0 x1 x2 x3 x4 x5 x6
    obtain ⟨E,hE⟩ : ∃ E,applyE M p = E:=⟨_,rfl⟩
    obtain ⟨M2,hM2⟩ : ∃ M2,doL M p = M2:=⟨_,rfl⟩
    rw [hE,hM2] at hA hnext
    have hstep : Aside0 (allV M (p :: ps.drop (i + 1)) i = if E = 0 then allV M2 (ps.drop (i + 1)) (i + 1) else ([],E,i)):=⟨by rw [← hE,← hM2]; rfl⟩
    clear hE hM2
    by_cases hz : E = 0
    ·have hnx : Aside0 (Inv (i + 1) M2):=⟨hnext.out hz⟩
     have hst2 : Aside0 (allV M (p :: ps.drop (i + 1)) i = allV M2 (ps.drop (i + 1)) (i + 1)):=⟨by rw [hstep.out,if_pos hz]⟩
     clear hnext hstep
     subst hz
     go_wp2_with (go_at_call 23; refine hA.out.mono ?_; rintro e w4 ⟨S,rfl,hb4,hS⟩; obtain ⟨A4,c4,rfl,hl4,hC4⟩:=hS rfl; replace hC4:=Aside0.mk hC4; replace hb4:=Aside0.mk hb4; replace hl4:=Aside0.mk hl4; clear hS)
     go_roundg (n - (i + 1))
     case measure => have:=hk.out; omega
     case rel => exact ⟨i + 1,M2,A4,c4,by simp,rfl,⟨by omega⟩,hnx,⟨by rw [← hall.out,hdrop.out,hst2.out]⟩,⟨hl4.out,hC4.out⟩,⟨hBM.out.trans ((hBp.out.trans (hb4.out.mono hBp.out.size)).mono hBM.out.size)⟩⟩
    ·have hne : (E != 0) = true:=by rw [bne_iff_ne]; exact hz
     have hne2 : (E == 0) = false:=by rw [beq_eq_false_iff_ne]; exact hz
     have hfin : Aside0 (∀ w4,Below (wr.alloc (.cells #[.int .i64 p.f0,.string p.f1,.string p.f2,.string p.f3,.int .i64 p.f4,.slice A5 p.f5.length c5,.slice A6 p.f6.length c6] 25)).heap.size (wr.alloc (.cells #[.int .i64 p.f0,.string p.f1,.string p.f2,.string p.f3,.int .i64 p.f4,.slice A5 p.f5.length c5,.slice A6 p.f6.length c6] 25)) w4 →
       AnsA w (allE l ps) (.returned (.tuple #[.slice none 0 0,.int .i64 E,.int .i64 (i : Int)])) w4):=⟨fun w4 hb4 => by
      refine ⟨hBM.out.trans ((hBp.out.trans (hb4.mono hBp.out.size)).mono hBM.out.size),?_⟩
      rw [he.out,← hall.out,hdrop.out,hstep.out,if_neg hz]
      exact if_neg (c:=E = 0) hz ▸ rfl⟩
     clear hz
     go_wp2_with (go_at_call 23; refine hA.out.mono ?_; rintro e w4 ⟨S,rfl,hb4,hS⟩; replace hb4:=Aside0.mk hb4; clear hS)
     go_ret3
     exact hfin.out _ hb4.out
   ·have hcmp : decide ((i : Int) < (n : Int)) = false:=decide_eq_false (by omega)
    have hfin : Aside0 (AnsA w (allE l ps) (.returned (.tuple #[.slice AM M.length cM,.int .i64 0,.int .i64 0])) wr):=⟨by
     refine ⟨hBM.out,?_⟩
     have hd : ps.drop i = []:=List.drop_eq_nil_of_le (by have:=HN.out; omega)
     have ha : allE l ps = (M,0,0):=by rw [he.out,← hall.out,hd]; rfl
     rw [ha,if_pos rfl]
     exact ⟨AM,cM,rfl,hCM.out.1,hCM.out.2⟩⟩
    go_wp2
    go_ret3
    exact hfin.out
def hL : List S41:=[⟨⟨#[97]⟩,2,[⟨#[120]⟩],⟨#[]⟩⟩]
def hP1 : S25:=⟨7,⟨#[97]⟩,⟨#[]⟩,⟨#[]⟩,0,[⟨#[120]⟩],[⟨#[121]⟩,⟨#[122]⟩]⟩
def hP2 : S25:=⟨4,⟨#[97]⟩,⟨#[]⟩,⟨#[]⟩,0,[],[]⟩
def hP3 : S25:=⟨10,⟨#[97]⟩,⟨#[98]⟩,⟨#[]⟩,0,[],[]⟩
def hQ : S25:=⟨1,⟨#[100]⟩,⟨#[]⟩,⟨#[]⟩,0,[],[]⟩
def hZ : S25:=⟨0,⟨#[]⟩,⟨#[]⟩,⟨#[]⟩,0,[],[]⟩
set_option maxRecDepth 100000 in
theorem h_t : treeB hL = true:=by decide +kernel
set_option maxRecDepth 100000 in
theorem h_1 : applyE hL hP1 = 0:=by decide +kernel
set_option maxRecDepth 100000 in
theorem h_1L : (doL hL hP1).length = 1 ∧ ((doL hL hP1).getD 0 z41).f2.length = 2:=by decide +kernel
set_option maxRecDepth 100000 in
theorem h_2 : applyE hL hP2 = 81:=by decide +kernel
set_option maxRecDepth 100000 in
theorem h_3 : applyE hL hP3 = 0:=by decide +kernel
set_option maxRecDepth 100000 in
theorem h_3L : (doL hL hP3).length = 1 ∧ (((doL hL hP3).getD 0 z41).f0).data = #[98]:=by decide +kernel
set_option maxRecDepth 100000 in
theorem h_q : applyE hL hQ = 0:=by decide +kernel
set_option maxRecDepth 100000 in
theorem h_qq : applyE (doL hL hQ) hQ = 71:=by decide +kernel
set_option maxRecDepth 100000 in
theorem h_z : primB hZ = false:=by decide +kernel
theorem strC {W : World} {b : Nat} {cs : Array Value} {t : TypeId} {fr : Nat × Nat} {xs : List ByteArray} (hh : W.heap[b]? = some (.cells cs t fr)) (hn : xs.length ≤ 9223372036854775807) (h : ∀ (j : Nat) (x : ByteArray),xs[j]? = some x → cs[j]? = some (Value.string x)) : Kd.string.C W (some ⟨b,0,none⟩) xs.length xs:=by
 refine ⟨rfl,hn,fun _ => ⟨_,rfl,fun j x hx => ⟨[.string x],rfl,rfl,fun i u hu => ?_⟩⟩⟩
 have hi : i = 0:=by
  have:=(List.getElem?_eq_some_iff.1 hu).1
  simp at this
  exact this
 subst hi
 simp only [List.getElem?_cons_zero,Option.some.injEq] at hu
 subst hu
 have e : (⟨b,0,none⟩ : Addr).add (j * Kd.string.sz + 0) = ⟨b,j,none⟩:=by
  show (⟨b,0,none⟩ : Addr).add (j * 1 + 0) = _
  rw [Nat.mul_one,Nat.add_zero]
  unfold Addr.add; split <;> simp_all
 rw [e,Lib.cell_of_heap hh]
 exact h j x hx
theorem strCl {W : World} {b : Nat} {t : TypeId} {fr : Nat × Nat} (xs : List ByteArray) (hh : W.heap[b]? = some (.cells (xs.map Value.string).toArray t fr)) (hn : xs.length ≤ 9223372036854775807) : Kd.string.C W (some ⟨b,0,none⟩) xs.length xs :=
 strC hh hn (fun j x hx => by simp [hx])
theorem strC0 (W : World) (A : Option Addr) : Kd.string.C W A 0 []:=⟨rfl,by decide,fun h => absurd h (by decide)⟩
theorem entC {W : World} {g : Nat} {t : TypeId} {fr : Nat × Nat} {x : S41} {X : Option Addr} {c : Nat} (hh : W.heap[g]? = some (.cells #[.string x.f0,.int .i64 x.f1,.slice X x.f2.length c,.string x.f3] t fr)) (hX : Kd.string.C W X x.f2.length x.f2) (hc : x.f2.length ≤ c) : Kd.C k41 W (some ⟨g,0,none⟩) 1 [x]:=by
 refine ⟨rfl,by decide,fun _ => ⟨⟨g,0,none⟩,rfl,?_⟩⟩
 intro j y hy
 have hj : j = 0:=by
  have:=(List.getElem?_eq_some_iff.1 hy).1
  simp at this
  exact this
 subst hj
 simp only [List.getElem?_cons_zero,Option.some.injEq] at hy
 subst hy
 refine ⟨[.string x.f0,.int .i64 x.f1,.slice X x.f2.length c,.string x.f3],rfl,k41_mk W x hc hX,fun i u hu => ?_⟩
 have e : (⟨g,0,none⟩ : Addr).add (0 * k41.sz + i) = ⟨g,i,none⟩:=by
  rw [Nat.zero_mul,Nat.zero_add]
  unfold Addr.add; split <;> simp_all
 rw [e,Lib.cell_of_heap hh,← hu]
 simp
theorem h_fit : Fit hL:=by
 refine ⟨?_,?_,?_⟩ <;> (intro x hx; rw [hL,List.mem_singleton] at hx; subst hx)
 ·decide
 ·decide
 ·intro s hs
  rw [List.mem_singleton] at hs
  subst hs
  decide
theorem h_f1 : FitP hP1:=⟨⟨⟨by decide,by decide⟩,by decide,by decide,by decide⟩,by decide,by decide,by decide⟩
theorem h_f2 : FitP hP2:=⟨⟨⟨by decide,by decide⟩,by decide,by decide,by decide⟩,by decide,by decide,by decide⟩
theorem h_f3 : FitP hP3:=⟨⟨⟨by decide,by decide⟩,by decide,by decide,by decide⟩,by decide,by decide,by decide⟩
theorem h_fq : FitP hQ:=⟨⟨⟨by decide,by decide⟩,by decide,by decide,by decide⟩,by decide,by decide,by decide⟩
theorem h_okz : Okp hZ:=⟨⟨by decide,by decide⟩,by decide,by decide,by decide⟩
set_option maxRecDepth 100000 in
theorem h_qL : (doL hL hQ) = [⟨⟨#[97]⟩,2,[⟨#[120]⟩],⟨#[]⟩⟩,⟨⟨#[100]⟩,1,[],⟨#[]⟩⟩]:=by kernel_rfl
theorem h_fitq : Fit (doL hL hQ):=by
 rw [h_qL]
 refine ⟨fun x hx => ?_,fun x hx => ?_,fun x hx => ?_⟩
 ·rcases List.mem_cons.1 hx with h | h
  ·subst h; decide
  ·rw [List.mem_singleton] at h; subst h; decide
 ·rcases List.mem_cons.1 hx with h | h
  ·subst h; decide
  ·rw [List.mem_singleton] at h; subst h; decide
 ·intro s hs
  rcases List.mem_cons.1 hx with h | h
  ·subst h
   rw [List.mem_singleton] at hs
   subst hs
   decide
  ·rw [List.mem_singleton] at h
   subst h
   cases hs
set_option maxRecDepth 100000 in
theorem h_qqA : allE hL [hQ,hQ] = ([],71,1):=by
 unfold allE
 rw [if_pos h_t]
 show (if applyE hL hQ = 0 then (if applyE (doL hL hQ) hQ = 0 then _ else ([],applyE (doL hL hQ) hQ,0 + 1)) else _) = _
 rw [if_pos h_q,h_qq,if_neg (by decide)]
theorem qqC {W : World} {g : Nat} (hh : W.heap[g]? = some (.cells #[.int .i64 1,.string ⟨#[100]⟩,.string ⟨#[]⟩,.string ⟨#[]⟩,.int .i64 0,.slice none 0 0,.slice none 0 0,.int .i64 1,.string ⟨#[100]⟩,.string ⟨#[]⟩,.string ⟨#[]⟩,.int .i64 0,.slice none 0 0,.slice none 0 0] 25 (0,0))) :
  Kd.C k25 W (some ⟨g,0,none⟩) 2 [hQ,hQ]:=by
 refine ⟨rfl,by decide,fun _ => ⟨⟨g,0,none⟩,rfl,?_⟩⟩
 intro j y hy
 have hyq : y = hQ ∧ j < 2:=by
  rcases j with _ | _ | j
  ·exact ⟨by simpa using hy.symm,by omega⟩
  ·exact ⟨by simpa using hy.symm,by omega⟩
  ·simp at hy
 obtain ⟨rfl,hj⟩:=hyq
 refine ⟨[.int .i64 1,.string ⟨#[100]⟩,.string ⟨#[]⟩,.string ⟨#[]⟩,.int .i64 0,.slice none 0 0,.slice none 0 0],rfl,k25_mk W hQ (A5:=none) (c5:=0) (by decide) (strC0 _ _) (A6:=none) (c6:=0) (by decide) (strC0 _ _),fun i u hu => ?_⟩
 have e : (⟨g,0,none⟩ : Addr).add (j * k25.sz + i) = ⟨g,j * 7 + i,none⟩:=by
  show (⟨g,0,none⟩ : Addr).add (j * 7 + i) = _
  unfold Addr.add; split <;> simp_all
 rw [e,Lib.cell_of_heap hh]
 rcases j with _ | _ | j
 ·rcases i with _ | _ | _ | _ | _ | _ | _ | i <;> first | exact hu | (simp at hu)
 ·rcases i with _ | _ | _ | _ | _ | _ | _ | i <;> first | exact hu | (simp at hu)
 ·omega
set_option maxHeartbeats 4000000 in
set_option maxRecDepth 1000000 in
theorem head08_calls (w : World) : Calls Tryz.prog 20 #[] w fun e w' => e = .returned (.bool true) ∧ Below w.heap.size w w':=by
 obtain ⟨W1,hW1⟩ : ∃ W1,W1 = (w.alloc (.cells #[.string ⟨#[120]⟩] 9)).alloc (.cells #[.string ⟨#[97]⟩,.int .i64 2,.slice (some ⟨w.heap.size,0,none⟩) 1 1,.string ⟨#[]⟩] 41):=⟨_,rfl⟩
 have hB1 : Below w.heap.size w W1:=by rw [hW1]; exact below_alloc (below_alloc (Below.refl _ _) _) _
 have hL1 : Kd.C k41 W1 (some ⟨w.heap.size + 1,0,none⟩) 1 hL:=by
  rw [hW1]
  have h0:=blk_alloc (blk_new w (.cells #[.string ⟨#[120]⟩] 9)) (.cells #[.string ⟨#[97]⟩,.int .i64 2,.slice (some ⟨w.heap.size,0,none⟩) 1 1,.string ⟨#[]⟩] 41)
  have h1:=blk_new (w.alloc (.cells #[.string ⟨#[120]⟩] 9)) (.cells #[.string ⟨#[97]⟩,.int .i64 2,.slice (some ⟨w.heap.size,0,none⟩) 1 1,.string ⟨#[]⟩] 41)
  rw [World.size_alloc] at h1
  exact entC (x:=⟨⟨#[97]⟩,2,[⟨#[120]⟩],⟨#[]⟩⟩) (c:=1) h1 (strCl [⟨#[120]⟩] h0 (by decide)) (by decide)
 have hC1 : ∀ U,Below W1.heap.size W1 U → ∀ g5 g6,U.heap[g5]? = some (.cells #[.string ⟨#[120]⟩] 9 (0,0)) → U.heap[g6]? = some (.cells #[.string ⟨#[121]⟩,.string ⟨#[122]⟩] 9 (0,0)) →
   Calls Tryz.prog 23 #[.slice (some ⟨w.heap.size + 1,0,none⟩) 1 1,.agg #[.int .i64 7,.string ⟨#[97]⟩,.string ⟨#[]⟩,.string ⟨#[]⟩,.int .i64 0,.slice (some ⟨g5,0,none⟩) 1 1,.slice (some ⟨g6,0,none⟩) 2 2]] U
    fun e w' => ∃ ad X c d,e = .returned (.tuple #[.slice (some ad) 1 c,.int .i64 0]) ∧ Below U.heap.size U w' ∧ w'.cell? ⟨ad.block,ad.off + 2,none⟩ = some (.slice X 2 d):=by
  intro U hU g5 g6 h5 h6
  refine (ans_two (apply_at hL (some ⟨w.heap.size + 1,0,none⟩) 1 hP1 (some ⟨g5,0,none⟩) 1 (some ⟨g6,0,none⟩) 2 U (Kd.C_below hL1 hU) (strCl [⟨#[120]⟩] h5 (by decide)) (by decide) (strCl [⟨#[121]⟩,⟨#[122]⟩] h6 (by decide)) (by decide) h_fit h_f1)).mono ?_
  rintro e w' ⟨S,rfl,hb,hS⟩
  obtain ⟨A',c',rfl,hc',hC⟩:=hS h_1
  obtain ⟨ad,X,d,rfl,_,_,_,e2,_⟩:=ent_at hC 0 (by rw [h_1L.1]; decide) rfl
  rw [h_1L.2] at e2
  rw [h_1L.1,h_1]
  have e0 : ad.add (0 * 4) = ad:=by rw [Nat.zero_mul]; unfold Addr.add; simp
  rw [e0] at e2
  exact ⟨ad,X,c',d,rfl,hb,e2⟩
 have hC2 : ∀ U,Below W1.heap.size W1 U → Calls Tryz.prog 23 #[.slice (some ⟨w.heap.size + 1,0,none⟩) 1 1,.agg #[.int .i64 4,.string ⟨#[97]⟩,.string ⟨#[]⟩,.string ⟨#[]⟩,.int .i64 0,.slice none 0 0,.slice none 0 0]] U
    fun e w' => ∃ S,e = .returned (.tuple #[S,.int .i64 81]) ∧ Below U.heap.size U w':=by
  intro U hU
  refine (ans_two (apply_at hL (some ⟨w.heap.size + 1,0,none⟩) 1 hP2 none 0 none 0 U (Kd.C_below hL1 hU) (strC0 _ _) (by decide) (strC0 _ _) (by decide) h_fit h_f2)).mono ?_
  rintro e w' ⟨S,rfl,hb,hS⟩
  rw [h_2]
  exact ⟨S,rfl,hb⟩
 have hC3 : ∀ U,Below W1.heap.size W1 U → Calls Tryz.prog 23 #[.slice (some ⟨w.heap.size + 1,0,none⟩) 1 1,.agg #[.int .i64 10,.string ⟨#[97]⟩,.string ⟨#[98]⟩,.string ⟨#[]⟩,.int .i64 0,.slice none 0 0,.slice none 0 0]] U
    fun e w' => ∃ ad c,e = .returned (.tuple #[.slice (some ad) 1 c,.int .i64 0]) ∧ Below U.heap.size U w' ∧ w'.cell? ad = some (.string ⟨#[98]⟩):=by
  intro U hU
  refine (ans_two (apply_at hL (some ⟨w.heap.size + 1,0,none⟩) 1 hP3 none 0 none 0 U (Kd.C_below hL1 hU) (strC0 _ _) (by decide) (strC0 _ _) (by decide) h_fit h_f3)).mono ?_
  rintro e w' ⟨S,rfl,hb,hS⟩
  obtain ⟨A',c',rfl,hc',hC⟩:=hS h_3
  obtain ⟨ad,X,d,rfl,_,e1,_⟩:=ent_at hC 0 (by rw [h_3L.1]; decide) rfl
  have e0 : ad.add (0 * 4) = ad:=by rw [Nat.zero_mul]; unfold Addr.add; simp
  rw [e0] at e1
  have e9 : ((doL hL hP3).getD 0 z41).f0 = ⟨#[98]⟩:=by
   have:=h_3L.2
   cases hx : ((doL hL hP3).getD 0 z41).f0
   rw [hx] at this
   simp only at this
   rw [this]
  rw [e9] at e1
  rw [h_3L.1,h_3]
  exact ⟨ad,c',rfl,hb,e1⟩
 have hC4 : ∀ U,Below W1.heap.size W1 U → ∀ g,U.heap[g]? = some (.cells #[.int .i64 1,.string ⟨#[100]⟩,.string ⟨#[]⟩,.string ⟨#[]⟩,.int .i64 0,.slice none 0 0,.slice none 0 0,.int .i64 1,.string ⟨#[100]⟩,.string ⟨#[]⟩,.string ⟨#[]⟩,.int .i64 0,.slice none 0 0,.slice none 0 0] 25 (0,0)) →
   Calls Tryz.prog 29 #[.slice (some ⟨w.heap.size + 1,0,none⟩) 1 1,.slice (some ⟨g,0,none⟩) 2 2] U fun e w' => e = .returned (.tuple #[.slice none 0 0,.int .i64 71,.int .i64 1]) ∧ Below U.heap.size U w':=by
  intro U hU g hg
  have h:=all_at hL (some ⟨w.heap.size + 1,0,none⟩) 1 [hQ,hQ] (some ⟨g,0,none⟩) 2 U (fun i M => (i = 0 ∧ M = hL) ∨ (i = 1 ∧ M = doL hL hQ)) (Kd.C_below hL1 hU) (qqC hg) h_fit.s (by decide) (fun _ => .inl ⟨rfl,rfl⟩) ?_
  ·rw [h_qqA] at h
   refine h.mono ?_
   rintro e w' ⟨hb,hi⟩
   rw [if_neg (by decide)] at hi
   exact ⟨hi,hb⟩
  ·intro i M p hp hinv
   have hpq : p = hQ:=by
    rcases i with _ | _ | i
    ·simpa using hp.symm
    ·simpa using hp.symm
    ·simp at hp
   subst hpq
   rcases hinv with ⟨rfl,rfl⟩ | ⟨rfl,rfl⟩
   ·exact ⟨h_fit,h_fq,fun _ => .inr ⟨rfl,rfl⟩⟩
   ·exact ⟨h_fitq,h_fq,fun he => by rw [h_qq] at he; exact absurd he (by decide)⟩
 have hC5 : ∀ U,Calls Tryz.prog 25 #[.agg #[.int .i64 0,.string ⟨#[]⟩,.string ⟨#[]⟩,.string ⟨#[]⟩,.int .i64 0,.slice none 0 0,.slice none 0 0]] U fun e w' => e = .returned (.bool false) ∧ Below U.heap.size U w':=by
  intro U
  have h:=primRight_at hZ h_okz none 0 none 0 U (strC0 _ _) (by decide) (strC0 _ _) (by decide)
  rw [h_z] at h
  exact h
 have hs1 : W1.heap.size = w.heap.size + 2:=by rw [hW1]; simp
 replace hC1:=Aside0.mk hC1
 replace hC2:=Aside0.mk hC2
 replace hC3:=Aside0.mk hC3
 replace hC4:=Aside0.mk hC4
 replace hC5:=Aside0.mk hC5
 replace hB1:=Aside0.mk hB1
 replace hs1:=Aside0.mk hs1
 clear hL1
 go_enter Tryz.func20,Tryz.ntmps20
 go_upto_region 2 with (fail)
 rw [← hW1]
 clear hW1
 have h5a : ((W1.alloc (.cells #[.string ⟨#[120]⟩] 9)).alloc (.cells #[.string ⟨#[121]⟩,.string ⟨#[122]⟩] 9)).heap[W1.heap.size]? = some (.cells #[.string ⟨#[120]⟩] 9 (0,0)):=blk_alloc (blk_new _ _) _
 have h6a : ((W1.alloc (.cells #[.string ⟨#[120]⟩] 9)).alloc (.cells #[.string ⟨#[121]⟩,.string ⟨#[122]⟩] 9)).heap[W1.heap.size + 1]? = some (.cells #[.string ⟨#[121]⟩,.string ⟨#[122]⟩] 9 (0,0)):=by
  have:=blk_new (W1.alloc (.cells #[.string ⟨#[120]⟩] 9)) (.cells #[.string ⟨#[121]⟩,.string ⟨#[122]⟩] 9)
  rw [World.size_alloc] at this
  exact this
 have hBa : Below W1.heap.size W1 ((W1.alloc (.cells #[.string ⟨#[120]⟩] 9)).alloc (.cells #[.string ⟨#[121]⟩,.string ⟨#[122]⟩] 9)):=below_alloc (below_alloc (Below.refl _ _) _) _
 have hX1:=Aside0.mk (hC1.out _ hBa _ _ h5a h6a)
 replace hBa:=Aside0.mk hBa
 clear h5a h6a
 go_upto_region 3 with (go_at_call 23; refine hX1.out.mono ?_; rintro e w2 ⟨ad1,X1,q1,d1,rfl,hb2,k1⟩)
 have hB2 : Aside0 (Below W1.heap.size W1 w2):=⟨hBa.out.trans (hb2.mono hBa.out.size)⟩
 clear hX1 hb2
 go_upto_region 4 with (go_at_call 23; refine (hC2.out _ hB2.out).mono ?_; rintro e w3 ⟨S3,rfl,hb3⟩)
 have hB3 : Aside0 (Below W1.heap.size W1 w3):=⟨hB2.out.trans (hb3.mono hB2.out.size)⟩
 replace k1:=pw_cell_below hb3 k1
 clear hb3
 go_upto_region 5 with (go_at_call 23; refine (hC3.out _ hB3.out).mono ?_; rintro e w4 ⟨ad4,q4,rfl,hb4,k4⟩)
 have hB4 : Aside0 (Below W1.heap.size W1 w4):=⟨hB3.out.trans (hb4.mono hB3.out.size)⟩
 replace k1:=pw_cell_below hb4 k1
 clear hb4
 have h14:=blk_new w4 (.cells #[.int .i64 1,.string ⟨#[100]⟩,.string ⟨#[]⟩,.string ⟨#[]⟩,.int .i64 0,.slice none 0 0,.slice none 0 0,.int .i64 1,.string ⟨#[100]⟩,.string ⟨#[]⟩,.string ⟨#[]⟩,.int .i64 0,.slice none 0 0,.slice none 0 0] 25)
 have hBq : Below w4.heap.size w4 (w4.alloc (.cells #[.int .i64 1,.string ⟨#[100]⟩,.string ⟨#[]⟩,.string ⟨#[]⟩,.int .i64 0,.slice none 0 0,.slice none 0 0,.int .i64 1,.string ⟨#[100]⟩,.string ⟨#[]⟩,.string ⟨#[]⟩,.int .i64 0,.slice none 0 0,.slice none 0 0] 25)):=below_alloc (Below.refl _ _) _
 have hB5 : Aside0 (Below W1.heap.size W1 (w4.alloc (.cells #[.int .i64 1,.string ⟨#[100]⟩,.string ⟨#[]⟩,.string ⟨#[]⟩,.int .i64 0,.slice none 0 0,.slice none 0 0,.int .i64 1,.string ⟨#[100]⟩,.string ⟨#[]⟩,.string ⟨#[]⟩,.int .i64 0,.slice none 0 0,.slice none 0 0] 25))):=⟨hB4.out.trans (hBq.mono hB4.out.size)⟩
 have hX4:=Aside0.mk (hC4.out _ hB5.out _ h14)
 have k1':=pw_cell_below hBq k1
 have k4':=pw_cell_below hBq k4
 clear h14 hBq k1 k4
 go_upto_region 6 with (go_at_call 29; refine hX4.out.mono ?_; rintro e w5 ⟨rfl,hb5⟩)
 have hB6 : Aside0 (Below W1.heap.size W1 w5):=⟨hB5.out.trans (hb5.mono hB5.out.size)⟩
 have k1:=pw_cell_below hb5 k1'
 have k4:=pw_cell_below hb5 k4'
 clear hb5 k1' k4'
 go_wp2_with (go_at_call 25; refine (hC5.out _).mono ?_; rintro e w6 ⟨rfl,hb6⟩; replace hb6:=Aside0.mk hb6)
 go_ret
 exact ⟨rfl,hB1.out.trans ((hB6.out.trans (hb6.out.mono hB6.out.size)).mono hB1.out.size)⟩
theorem small_fit {l : List S41} (h : ∀ x ∈ l,Small x) : Fit l :=
 ⟨fun x hx => by have:=(h x hx).p; omega,fun x hx => by have:=(h x hx).n; omega,fun x hx s hs => by have:=(h x hx).s s hs; omega⟩
theorem small_fitP {p : S25} (h : SmallP p) (hk : Okp p) : FitP p:=⟨hk,by have:=h.n; omega,by have:=h.n; omega,by have:=h.f2; omega⟩
theorem thing_path {x : S41} (h : thingB x = true) : rightB x.f0 = true:=by
 unfold thingB at h
 simp only [Bool.and_eq_true] at h
 first
  | exact h.1
  | exact h.1.1
  | exact h.1.1.1
  | exact h.1.1.1.1
  | exact h.1.1.1.1.1
structure Rd (w : World) (x : S25) (A5 : Option Addr) (c5 : Nat) (A6 : Option Addr) (c6 : Nat) : Prop where
 g5 : Kd.C Kd.string w A5 x.f5.length x.f5
 l5 : x.f5.length ≤ c5
 g6 : Kd.C Kd.string w A6 x.f6.length x.f6
 l6 : x.f6.length ≤ c6
theorem Rd.below {w W : World} {x : S25} {A5 : Option Addr} {c5 : Nat} {A6 : Option Addr} {c6 : Nat} (h : Rd w x A5 c5 A6 c6) (hb : Below w.heap.size w W) : Rd W x A5 c5 A6 c6:=⟨Kd.C_below h.g5 hb,h.l5,Kd.C_below h.g6 hb,h.l6⟩
theorem two_steps {u T v : World} (hT : Below u.heap.size u T) (hb : Below T.heap.size T v) : Below u.heap.size u v:=hT.trans (hb.mono hT.size)
theorem box1 (u : World) (o o' : Obj) : ((u.alloc o).alloc o').heap[u.heap.size]? = some o:=blk_alloc (blk_new u o) o'
theorem box2 (u : World) (o o' : Obj) : ((u.alloc o).alloc o').heap[u.heap.size + 1]? = some o':=by
 have h:=blk_new (u.alloc o) o'
 simpa using h
theorem G_at (l : List S41) (A : Option Addr) (c : Nat) (w : World) (hr : Kd.C k41 w A l.length l) (hc : l.length ≤ c) (hn : l.length ≤ 140737488355328) (hx : ∀ x ∈ l,x.f2.length ≤ 140737488355328) :
  ∃ r,(r = false → l.length < 800 ∧ ∀ x ∈ l,Small x) ∧ ∀ U,Below w.heap.size w U → Calls Tryz.prog 21 #[.slice A l.length c] U fun e w' => e = .returned (.bool r) ∧ Below U.heap.size U w':=by
 obtain ⟨r,hr',h⟩:=great7 l hn hx
 obtain ⟨k,hk⟩:=hr'.rounds
 exact ⟨r,h,fun U hU => counterpanelaw07_Great.calls k A c l r U (Kd.C_below hr hU) hc hk⟩
theorem K_at (p : S25) (A5 : Option Addr) (a5 : Nat) (A6 : Option Addr) (a6 : Nat) (w : World) (hp : Okp p) (rp : Rd w p A5 a5 A6 a6) :
  ∃ r,(r = false → SmallP p) ∧ ∀ U,Below w.heap.size w U → Calls Tryz.prog 22 #[.agg #[.int .i64 p.f0,.string p.f1,.string p.f2,.string p.f3,.int .i64 p.f4,.slice A5 p.f5.length a5,.slice A6 p.f6.length a6]] U fun e w' => e = .returned (.bool r) ∧ Below U.heap.size U w':=by
 obtain ⟨r,hr',h⟩:=great8 p hp.ok
 obtain ⟨k,hk⟩:=hr'.rounds
 exact ⟨r,h,fun U hU => counterpanelaw08_Great.calls k _ _ _ _ _ _ _ _ _ _ _ r U (Kd.C_below rp.g5 hU) rp.l5 (Kd.C_below rp.g6 hU) rp.l6 hk⟩
theorem A_at (l : List S41) (A : Option Addr) (c : Nat) (p : S25) (A5 : Option Addr) (a5 : Nat) (A6 : Option Addr) (a6 : Nat) (w : World) (hr : Kd.C k41 w A l.length l) (rp : Rd w p A5 a5 A6 a6) (hf : Fit l) (hp : FitP p) :
  ∀ U,Below w.heap.size w U → Calls Tryz.prog 23 #[.slice A l.length c,.agg #[.int .i64 p.f0,.string p.f1,.string p.f2,.string p.f3,.int .i64 p.f4,.slice A5 p.f5.length a5,.slice A6 p.f6.length a6]] U fun e w' =>
   ∃ S,e = .returned (.tuple #[S,.int .i64 (applyE l p)]) ∧ Below U.heap.size U w' ∧ (applyE l p = 0 → ∃ A c,S = .slice A (doL l p).length c ∧ (doL l p).length ≤ c ∧ Kd.C k41 w' A (doL l p).length (doL l p)) ∧ (applyE l p ≠ 0 → S = .slice none 0 0):=by
 intro U hU
 refine (apply_at l A c p A5 a5 A6 a6 U (Kd.C_below hr hU) (Kd.C_below rp.g5 hU) rp.l5 (Kd.C_below rp.g6 hU) rp.l6 hf hp).mono ?_
 rintro e w' ⟨hb,hi⟩
 by_cases hE : applyE l p = 0
 ·rw [if_pos hE] at hi
  obtain ⟨A',c',rfl,hl,hC⟩:=hi
  exact ⟨_,by rw [hE],hb,fun _ => ⟨A',c',rfl,hl,hC⟩,fun h => absurd hE h⟩
 ·rw [if_neg hE] at hi
  exact ⟨_,hi,hb,fun h => absurd h hE,fun _ => rfl⟩
structure Lr (s : ByteArray) : Prop where
 n : (runs s.data.toList).length ≤ 4000
 r : ∀ r ∈ runs s.data.toList,r.length ≤ 4000
theorem runs_le : ∀ (L : List (List UInt8)) (k : Nat),(∀ r ∈ L,r.length ≤ k) → L.flatten.length ≤ L.length * k
 | [],k,h => by simp
 | r :: L,k,h => by
  rw [List.flatten_cons,List.length_append,List.length_cons,Nat.add_mul,Nat.one_mul]
  have:=runs_le L k (fun x hx => h x (List.mem_cons_of_mem _ hx))
  have:=h r (List.mem_cons_self ..)
  omega
theorem Lr.size {s : ByteArray} (h : Lr s) : s.size ≤ 16000000:=by
 have h1:=runs_le (runs s.data.toList) 4000 h.r
 rw [runs_flat,dlen] at h1
 have h2:=h.n
 omega
theorem runs_len : ∀ (L : List (List UInt8)),(∀ r ∈ L,r ≠ []) → L.length ≤ L.flatten.length ∧ ∀ r ∈ L,r.length ≤ L.flatten.length
 | [],h => by simp
 | r :: L,h => by
  obtain ⟨h1,h2⟩:=runs_len L (fun x hx => h x (List.mem_cons_of_mem _ hx))
  rw [List.flatten_cons,List.length_append,List.length_cons]
  have h3 : 0 < r.length:=List.length_pos_iff.2 (h r (List.mem_cons_self ..))
  refine ⟨by omega,fun x hx => ?_⟩
  rcases List.mem_cons.1 hx with e | hx
  ·subst e; omega
  ·have:=h2 x hx; omega
theorem lr_small {s : ByteArray} (h : s.size < 4000) : Lr s:=by
 have h1:=runs_len (runs s.data.toList) (fun r hr => runs_ne _ r hr)
 rw [runs_flat,dlen] at h1
 exact ⟨by omega,fun r hr => by have:=h1.2 r hr; omega⟩
theorem lr_repl {s fr to_ : ByteArray} (h : Lr s) (hf : tokenB fr = true) (ht : tokenB to_ = true) (hs : to_.size < 4000) : Lr (replV s fr to_):=by
 have hr:=repl_runs hf ht s
 refine ⟨by rw [hr,List.length_map]; exact h.n,fun r hm => ?_⟩
 rw [hr] at hm
 obtain ⟨r',hr',rfl⟩:=List.mem_map.1 hm
 unfold repR
 split
 ·rw [dlen]; omega
 ·exact h.r r' hr'
structure Bnd (b : Nat) (l : List S41) : Prop where
 s : ∀ x ∈ l,x.f0.size ≤ 1000000000000
 n : ∀ x ∈ l,x.f2.length ≤ b
 r : ∀ x ∈ l,∀ s ∈ x.f2,Lr s
theorem Bnd.fit {b : Nat} {l : List S41} (h : Bnd b l) (hb : b ≤ 1000000000) : Fit l :=
 ⟨h.s,fun x hx => Nat.le_trans (h.n x hx) hb,fun x hx s hs => Nat.le_trans (h.r x hx s hs).size (by decide)⟩
theorem Bnd.mono {b c : Nat} {l : List S41} (h : Bnd b l) (hb : b ≤ c) : Bnd c l:=⟨h.s,fun x hx => Nat.le_trans (h.n x hx) hb,h.r⟩
theorem small_bnd {l : List S41} (h : ∀ x ∈ l,Small x) : Bnd 4000 l :=
 ⟨fun x hx => by have:=(h x hx).p; omega,fun x hx => by have:=(h x hx).n; omega,fun x hx s hs => lr_small ((h x hx).s s hs)⟩
structure SmallQ (p : S25) : Prop where
 f1 : p.f1.size < 4000
 f2 : p.f2.size < 4000
 f3 : p.f3.size < 4000
 n5 : p.f5.length < 4000
 n6 : p.f6.length < 4000
 s5 : ∀ t ∈ p.f5,t.size < 4000
 s6 : ∀ t ∈ p.f6,t.size < 4000
theorem smallq {p : S25} (h : SmallP p) : SmallQ p:=⟨h.f1,h.f2,h.f3,by have:=h.n; omega,by have:=h.n; omega,h.s5,h.s6⟩
theorem SmallQ.ok {p : S25} (h : SmallQ p) : Okp p :=
 ⟨⟨by have:=h.n5; omega,by have:=h.n6; omega⟩,by have:=h.f1; omega,by have:=h.f2; omega,by have:=h.f3; omega⟩
theorem SmallQ.fit {p : S25} (h : SmallQ p) : FitP p:=⟨h.ok,by have:=h.n5; omega,by have:=h.n6; omega,by have:=h.f2; omega⟩
theorem smallq_z : SmallQ z25:=⟨by decide,by decide,by decide,by decide,by decide,(fun t ht => by cases ht),(fun t ht => by cases ht)⟩
theorem SmallQ.inv {p : S25} (h : SmallQ p) : SmallQ (invS p):=by
 unfold invS
 split
 ·exact smallq_z
 split
 ·exact ⟨h.f1,h.f2,h.f3,h.n6,h.n5,h.s6,h.s5⟩
 split
 ·exact ⟨h.f1,h.f3,h.f2,h.n5,h.n6,h.s5,h.s6⟩
 split
 ·exact ⟨h.f1,h.f3,h.f2,h.n5,h.n6,h.s5,h.s6⟩
 split
 ·exact ⟨h.f2,h.f1,h.f3,h.n5,h.n6,h.s5,h.s6⟩
 ·exact ⟨h.f1,h.f2,h.f3,h.n5,h.n6,h.s5,h.s6⟩
theorem change_bnd {b : Nat} {x y : S41} {p : S25} (hn : x.f2.length ≤ b) (hr : ∀ s ∈ x.f2,Lr s) (hp : SmallQ p) (hq : primB p = true) (h : changeV x p = some y) : y.f2.length ≤ b + 4000 ∧ ∀ s ∈ y.f2,Lr s:=by
 unfold changeV at h
 split at h
 ·obtain ⟨M,hM,rfl⟩:=Option.map_eq_some_iff.mp h
  unfold hunkV at hM
  split at hM
  ·cases hM
   refine ⟨?_,fun s hs => ?_⟩
   ·show (x.f2.take p.f4.toNat ++ p.f6 ++ x.f2.drop (p.f4.toNat + p.f5.length)).length ≤ b + 4000
    simp only [List.length_append,List.length_take,List.length_drop]
    have:=hp.n6
    omega
   ·replace hs : s ∈ x.f2.take p.f4.toNat ++ p.f6 ++ x.f2.drop (p.f4.toNat + p.f5.length):=hs
    rcases List.mem_append.1 hs with hs | hs
    ·rcases List.mem_append.1 hs with hs | hs
     ·exact hr s (List.mem_of_mem_take hs)
     ·exact lr_small (hp.s6 s hs)
    ·exact hr s (List.mem_of_mem_drop hs)
  ·cases hM
 ·split at h
  ·rename_i h8
   obtain ⟨M,hM,rfl⟩:=Option.map_eq_some_iff.mp h
   unfold tokV at hM
   split at hM
   ·cases hM
   ·cases hM
    refine ⟨?_,fun s hs => ?_⟩
    ·show (x.f2.map _).length ≤ b + 4000
     rw [List.length_map]
     omega
    ·replace hs : s ∈ x.f2.map (fun s => replV s p.f3 p.f2):=hs
     obtain ⟨t,ht,rfl⟩:=List.mem_map.1 hs
     exact lr_repl (hr t ht) (prim_token hq h8).1 (prim_token hq h8).2.1 hp.f2
  ·split at h
   ·cases h
    exact ⟨by show x.f2.length ≤ b + 4000; omega,hr⟩
   ·cases h
theorem bnd_do {b : Nat} {l : List S41} {p : S25} (h : Bnd b l) (hp : SmallQ p) (ha : applyE l p = 0) : Bnd (b + 4000) (doL l p):=by
 have hT:=apply_tree ha
 obtain ⟨_,hq,_⟩:=apply_zero.mp ha
 have key : ∀ x ∈ doL l p,x.f2.length ≤ b + 4000 ∧ ∀ s ∈ x.f2,Lr s:=by
  have old : ∀ x ∈ l,x.f2.length ≤ b + 4000 ∧ ∀ s ∈ x.f2,Lr s:=fun x hx => ⟨by have:=h.n x hx; omega,h.r x hx⟩
  have hz : (z41.f2).length ≤ b + 4000 ∧ ∀ s ∈ z41.f2,Lr s:=⟨by show ([] : List ByteArray).length ≤ _; simp,fun s hs => by cases hs⟩
  intro x hx
  unfold doL at hx
  split at hx
  ·unfold moveL at hx
   obtain ⟨z,hz,rfl⟩:=List.mem_map.1 (sort_mem.1 hx)
   exact old z hz
  ·split at hx
   ·unfold changeL setL at hx
    rcases List.mem_or_eq_of_mem_set hx with hx | hx
    ·exact old x hx
    ·cases hc : changeV (thingAt l p.f1) p with
     | none => rw [hc] at hx; rw [hx]; exact hz
     | some y =>
      rw [hc] at hx
      rw [hx]
      unfold thingAt at hc
      cases hf : findV l p.f1 with
      | none =>
       rw [hf] at hc
       exact change_bnd (x:=z41) (by show ([] : List ByteArray).length ≤ b; simp) (fun s hs => by cases hs) hp hq hc
      | some z =>
       rw [hf] at hc
       exact change_bnd (x:=z) (h.n z (find_mem hf).1) (h.r z (find_mem hf).1) hp hq hc
   ·split at hx
    ·unfold insL at hx
     rcases List.mem_append.1 hx with hx | hx
     ·exact old x (List.mem_of_mem_take hx)
     ·rcases List.mem_cons.1 hx with hx | hx
      ·rw [hx]
       exact ⟨by show ([] : List ByteArray).length ≤ _; simp,fun s hs => by cases hs⟩
      ·exact old x (List.mem_of_mem_drop hx)
    ·unfold delL at hx
     exact old x (List.mem_of_mem_eraseIdx hx)
 refine ⟨fun x hx => ?_,fun x hx => (key x hx).1,fun x hx => (key x hx).2⟩
 have:=right_size (thing_path (hT.t x hx))
 omega
theorem bnd_run : ∀ (ps : List S25) (b : Nat) (l k : List S41),Bnd b l → (∀ p ∈ ps,SmallQ p) → runV l ps = some k → Bnd (b + 4000 * ps.length) k
 | [],b,l,k,hb,hp,h => by rw [← Option.some.inj h]; exact hb
 | p :: ps,b,l,k,hb,hp,h => by
  have h' : (if applyE l p = 0 then runV (doL l p) ps else none) = some k:=h
  split at h'
  ·rename_i h0
   have:=bnd_run ps (b + 4000) _ k (bnd_do hb (hp p (List.mem_cons_self ..)) h0) (fun q hq => hp q (List.mem_cons_of_mem _ hq)) h'
   refine this.mono ?_
   rw [List.length_cons]
   omega
  ·cases h'
theorem allE_or (l : List S41) (ps : List S25) : (∃ k,treeB l = true ∧ runV l ps = some k ∧ allE l ps = (k,0,0)) ∨ (∃ e j,e ≠ 0 ∧ allE l ps = ([],e,j) ∧ (treeB l = true → runV l ps = none)):=by
 unfold allE
 by_cases ht : treeB l = true
 ·rw [if_pos ht]
  rcases all_run ps l 0 with ⟨k,h1,h2⟩ | ⟨e,j,h1,h2,h3⟩
  ·exact .inl ⟨k,ht,h1,h2⟩
  ·exact .inr ⟨e,j,h2,h3,fun _ => h1⟩
 ·rw [if_neg ht]
  exact .inr ⟨1,0,by decide,rfl,fun h => absurd h ht⟩
set_option maxHeartbeats 4000000 in
set_option maxRecDepth 1000000 in
theorem GL_at (ps : List S25) (P : Option Addr) (d : Nat) (w : World) (hps : Kd.C k25 w P ps.length ps) (hd : ps.length ≤ d) (hm : ps.length ≤ 1256584717458) (ho : ∀ p ∈ ps,Okp p) :
  ∃ r,(r = false → ps.length ≤ 60 ∧ ∀ p ∈ ps,SmallP p) ∧ ∀ U,Below w.heap.size w U → Calls Tryz.prog 28 #[.slice P ps.length d] U fun e w' => e = .returned (.bool r) ∧ Below U.heap.size U w':=by
 obtain ⟨f,hf⟩ : ∃ f : S25 → Bool,∀ p,Okp p → Ev (fun k => counterpanelaw08_Great.f k p.f0 p.f1 p.f2 p.f3 p.f4 p.f5 p.f6) (f p) ∧ (f p = false → SmallP p):=by
  classical
  exact ⟨fun p => if h : Okp p then (great8 p h.ok).choose else false,fun p hp => by simp only [dif_pos hp]; exact (great8 p hp.ok).choose_spec⟩
 refine ⟨decide (60 < ps.length) || ps.any f,fun h => ?_,fun U hU => ?_⟩
 ·rw [Bool.or_eq_false_iff,decide_eq_false_iff_not,List.any_eq_false] at h
  exact ⟨by omega,fun p hp => (hf p (ho p hp)).2 (by simpa using h.2 p hp)⟩
 have HPS:=Aside0.mk (Kd.C_below hps hU)
 obtain ⟨n,hN⟩ : ∃ n,ps.length = n:=⟨_,rfl⟩
 rw [hN] at hm HPS ⊢
 have HN:=Aside0.mk hN
 have HO:=Aside0.mk ho
 have HF:=Aside0.mk hf
 clear hps hN ho hf hd
 by_cases h60 : 60 < n
 ·have c1 : decide ((n : Int) > 60) = true:=decide_eq_true (by omega)
  have hr : (decide (60 < n) || ps.any f) = true:=by rw [decide_eq_true h60]; rfl
  rw [hr]
  clear hr h60
  go_enter Tryz.func28,Tryz.ntmps28
  go_wp2
  go_ret
  exact ⟨rfl,Below.refl _ _⟩
 ·have c1 : decide ((n : Int) > 60) = false:=decide_eq_false (by omega)
  have hr : Aside0 ((decide (60 < n) || ps.any f) = ps.any f):=⟨by rw [decide_eq_false h60]; rfl⟩
  obtain ⟨r,hrr⟩ : ∃ r,(decide (60 < n) || ps.any f) = r:=⟨_,rfl⟩
  rw [hrr] at hr ⊢
  clear hrr
  have hm' : n ≤ 60:=by omega
  clear h60 hm
  go_enter Tryz.func28,Tryz.ntmps28
  go_wp2
  go_loopg [3] n (fun kq u3 w' => ∃ (i : Nat),u3 = .int .i64 (i : Int) ∧ Aside0 (i + kq = n) ∧ Aside0 ((ps.drop i).any f = ps.any f) ∧ Aside0 (Below U.heap.size U w'))
  case atStart => exact ⟨0,rfl,⟨by omega⟩,⟨rfl⟩,⟨Below.refl _ _⟩⟩
  case round =>
   obtain ⟨i,rfl,hk,hany,hB⟩:=hrel
   by_cases hi : i < n
   ·have hil : i < ps.length:=by rw [HN.out]; exact hi
    have hcmp : decide ((i : Int) < (n : Int)) = true:=decide_eq_true (by omega)
    have i0 : (0 : Int) ≤ (i : Int):=by omega
    have i1 : (i : Int) < (n : Int):=by omega
    have hwi : IntKind.i64.wrap ((i : Int) + 1) = (i : Int) + 1:=wrap_small _ (by omega) (by omega)
    obtain ⟨ad,A5,c5,A6,c6,hP,x0,x1,x2,x3,x4,x5,x6,l5,g5,l6,g6⟩:=at_T25 (Kd.C_below HPS.out hB.out) (i : Int) i0 i1
    have hrd : rd_T25 ps (i : Int) = ps[i]:=by unfold rd_T25; rw [Int.toNat_natCast,List.getD_eq_getElem?_getD,List.getElem?_eq_getElem hil]; rfl
    have hdrop : ps.drop i = ps[i] :: ps.drop (i + 1):=List.drop_eq_getElem_cons hil
    rw [hrd] at x0 x1 x2 x3 x4 x5 x6 l5 g5 l6 g6
    rw [Int.toNat_natCast] at x0 x1 x2 x3 x4 x5 x6
    obtain ⟨p,hp⟩ : ∃ p,ps[i] = p:=⟨_,rfl⟩
    have hpo : Okp p:=by rw [← hp]; exact HO.out _ (List.getElem_mem hil)
    rw [hp] at x0 x1 x2 x3 x4 x5 x6 l5 g5 l6 g6 hdrop
    subst hP
    obtain ⟨k,hkk⟩:=(HF.out p hpo).1.rounds
    have hC:=counterpanelaw08_Great.calls k _ _ _ _ _ A5 c5 _ A6 c6 _ (f p) wr g5 l5 g6 l6 hkk
    replace hC:=Aside0.mk hC
    replace hdrop:=Aside0.mk hdrop
    clear hp hrd hkk hpo l5 g5 l6 g6
    obtain ⟨b,hb⟩ : ∃ b,f p = b:=⟨_,rfl⟩
    rw [hb] at hC
    replace hb:=Aside0.mk hb
    cases b with
    | true =>
     go_wp2_with (go_at_call 22; refine hC.out.mono ?_; rintro e w4 ⟨rfl,hb4⟩; replace hb4:=Aside0.mk hb4)
     go_ret
     exact ⟨by rw [hr.out,← hany.out,hdrop.out,List.any_cons,hb.out]; rfl,hB.out.trans (hb4.out.mono hB.out.size)⟩
    | false =>
     go_wp2_with (go_at_call 22; refine hC.out.mono ?_; rintro e w4 ⟨rfl,hb4⟩; replace hb4:=Aside0.mk hb4)
     go_roundg (n - (i + 1))
     case measure => have:=hk.out; omega
     case rel => exact ⟨i + 1,by simp,⟨by omega⟩,⟨by rw [← hany.out,hdrop.out,List.any_cons,hb.out]; rfl⟩,⟨hB.out.trans (hb4.out.mono hB.out.size)⟩⟩
   ·have hcmp : decide ((i : Int) < (n : Int)) = false:=decide_eq_false (by omega)
    have hd : Aside0 (ps.drop i = []):=⟨List.drop_eq_nil_of_le (by have:=HN.out; omega)⟩
    go_wp2
    go_ret
    exact ⟨by rw [hr.out,← hany.out,hd.out]; rfl,hB.out⟩
theorem same05E (a : List ByteArray) (hn : a.length ≤ 140737488355328) : ∀ (d i : Nat),i + d = a.length → Ev (fun k => counterpaneref05_Same.l0 k a a (i : Int)) true:=by
 intro d
 induction d with
 | zero =>
  intro i hi
  refine Ev.step (f:=fun _ => some true) (fun k => ?_) (Ev.now _)
  simp only [counterpaneref05_Same.l0]
  rw [if_neg (by omega)]
 | succ d ih =>
  intro i hi
  have h1 : i < a.length:=by omega
  refine Ev.step (f:=fun k => counterpaneref05_Same.l0 k a a ((i + 1 : Nat) : Int)) (fun k => ?_) (ih (i + 1) (by omega))
  simp only [counterpaneref05_Same.l0]
  rw [if_pos (by omega),if_pos (by omega),if_pos (by omega),if_pos trivial,wrap_1 h1 hn]
theorem same05_at (a : List ByteArray) (hn : a.length ≤ 140737488355328) (A : Option Addr) (c : Nat) (B : Option Addr) (d : Nat) (w : World) (h0 : Kd.string.C w A a.length a) (h1 : a.length ≤ c) (h2 : Kd.string.C w B a.length a) (h3 : a.length ≤ d) :
  Calls Tryz.prog 72 #[.slice A a.length c,.slice B a.length d] w fun e w' => e = .returned (.bool true) ∧ Below w.heap.size w w':=by
 obtain ⟨k,hk⟩:=(same05E a hn a.length 0 (by omega)).rounds
 have hf : counterpaneref05_Same.f k a a = some true:=by
  unfold counterpaneref05_Same.f
  rw [if_pos rfl]
  exact hk
 exact (counterpaneref05_Same.calls k A c a B d a true w h0 h1 h2 h3 hf).mono fun e w' h => ⟨h.1,h.2.below⟩

set_option maxHeartbeats 32000000 in
set_option maxRecDepth 1000000 in
theorem sameE_at (l : List S41) (hn : l.length ≤ 140737488355328) (hx : ∀ x ∈ l,x.f2.length ≤ 140737488355328) (A : Option Addr) (c : Nat) (B : Option Addr) (d : Nat) (w : World) (h0 : Kd.C k41 w A l.length l) (h1 : l.length ≤ c) (h2 : Kd.C k41 w B l.length l) (h3 : l.length ≤ d) :
  Calls Tryz.prog 27 #[.slice A l.length c,.slice B l.length d] w fun e w' => e = .returned (.bool true) ∧ Below w.heap.size w w':=by
 have HA:=Aside0.mk h0
 have HB:=Aside0.mk h2
 have HX:=Aside0.mk hx
 have HN:=Aside0.mk hn
 have B0 : Aside0 (Below w.heap.size w w):=⟨Below.refl _ _⟩
 clear h0 h1 h2 h3 hx
 go_enter Tryz.func27,Tryz.ntmps27
 go_wp2
 go_loopg [5] l.length (fun kx s5 wr => ∃ i : Nat,s5 = .int .i64 i ∧ i + kx = l.length ∧ Aside0 (Below w.heap.size w wr))
 case atStart => exact ⟨0,rfl,by omega,B0⟩
 case round =>
  clear B0
  obtain ⟨i,rfl,hi,B1⟩:=hrel
  by_cases hlt : i < l.length
  ·have hi0 : (0 : Int) ≤ (i : Int):=by omega
   have hi1 : (i : Int) < (l.length : Int):=by omega
   have hdb : decide ((i : Int) < (l.length : Int)) = true:=decide_eq_true hi1
   have hwi : IntKind.i64.wrap ((i : Int) + 1) = ((i + 1 : Nat) : Int):=by rw [wrap_small _ (by omega) (by omega)]; omega
   obtain ⟨ad,X,e,rfl,rx,x0,x1,x2,x3⟩:=ent_at (Kd.C_below HA.out B1.out) i hlt rfl
   obtain ⟨bd,Y,f,rfl,ry,y0,y1,y2,y3⟩:=ent_at (Kd.C_below HB.out B1.out) i hlt rfl
   obtain ⟨x,hxe⟩ : ∃ x,l.getD i z41 = x:=⟨_,rfl⟩
   rw [hxe] at rx x0 x1 x2 x3 ry y0 y1 y2 y3
   have hxm : x ∈ l:=by rw [← hxe,getD_get hlt]; exact List.getElem_mem hlt
   have hLn : Aside0 (∀ W,Below wr.heap.size wr W → Calls Tryz.prog 72 #[.slice X x.f2.length e,.slice Y x.f2.length f] W fun e w' => e = .returned (.bool true) ∧ Below W.heap.size W w') :=
    ⟨fun W hb => same05_at x.f2 (HX.out x hxm) X e Y f W (rx.later hb).g rx.l (ry.later hb).g ry.l⟩
   have ne0 : (x.f0.toList != x.f0.toList) = false:=by simp
   have ne3 : (x.f3.toList != x.f3.toList) = false:=by simp
   have ne1 : (x.f1 != x.f1) = false:=by simp
   replace x0:=Aside0.mk x0
   replace x1:=Aside0.mk x1
   replace x2:=Aside0.mk x2
   replace x3:=Aside0.mk x3
   replace y0:=Aside0.mk y0
   replace y1:=Aside0.mk y1
   replace y2:=Aside0.mk y2
   replace y3:=Aside0.mk y3
   clear rx ry hxe hxm
   go_upto_region 6 with (fail)
   refine wp_region_held_drew (S:=Below wr.drew.heap.size wr.drew) (by kernel_rfl) (Below.refl _ _) (fun hS => ?_)
   refine' tkE 0 17 hS ?_ ?_; rotate_left
   ·intro W' hSW; go_simp; (try with_reducible rfl)
   refine' tkE 1 18 hS ?_ ?_; rotate_left
   ·intro W' hSW; go_simp; (try with_reducible rfl)
   refine' tkE 2 19 hS ?_ ?_; rotate_left
   ·intro W' hSW; go_simp; (try with_reducible rfl)
   refine' tkE 3 20 hS ?_ ?_; rotate_left
   ·intro W' hSW; go_simp; (try with_reducible rfl)
   refine' tkE 4 21 hS ?_ ?_; rotate_left
   ·intro W' hSW; have k0:=pw_cell_below ((below_drew (Below.refl _ _)).trans hSW) x0.out; go_simp; (try with_reducible rfl)
   refine' tkE 5 22 hS ?_ ?_; rotate_left
   ·intro W' hSW; go_simp; (try with_reducible rfl)
   refine' tkE 6 23 hS ?_ ?_; rotate_left
   ·intro W' hSW; go_simp; (try with_reducible rfl)
   refine' tkE 7 24 hS ?_ ?_; rotate_left
   ·intro W' hSW; go_simp; (try with_reducible rfl)
   refine' tkE 8 25 hS ?_ ?_; rotate_left
   ·intro W' hSW; go_simp; (try with_reducible rfl)
   refine' tkE 9 26 hS ?_ ?_; rotate_left
   ·intro W' hSW; have k0:=pw_cell_below ((below_drew (Below.refl _ _)).trans hSW) y0.out; go_simp; (try with_reducible rfl)
   refine' tkE 10 27 hS ?_ ?_; rotate_left
   ·intro W' hSW; go_simp; (try with_reducible rfl)
   refine' tkE 11 28 hS ?_ ?_; rotate_left
   ·intro W' hSW; go_simp; (try with_reducible rfl)
   refine' tkE 12 29 hS ?_ ?_; rotate_left
   ·intro W' hSW; go_simp; (try with_reducible rfl)
   refine' tkE 13 30 hS ?_ ?_; rotate_left
   ·intro W' hSW; go_simp; (try with_reducible rfl)
   refine' tkE 14 31 hS ?_ ?_; rotate_left
   ·intro W' hSW; go_simp; (try with_reducible rfl)
   refine' tkE 15 32 hS ?_ ?_; rotate_left
   ·intro W' hSW; go_simp; (try with_reducible rfl)
   refine' tkE 16 33 hS ?_ ?_; rotate_left
   ·intro W' hSW; have k0:=pw_cell_below ((below_drew (Below.refl _ _)).trans hSW) x1.out; go_simp; (try with_reducible rfl)
   refine' tkE 17 34 hS ?_ ?_; rotate_left
   ·intro W' hSW; go_simp; (try with_reducible rfl)
   refine' tkE 18 35 hS ?_ ?_; rotate_left
   ·intro W' hSW; go_simp; (try with_reducible rfl)
   refine' tkE 19 36 hS ?_ ?_; rotate_left
   ·intro W' hSW; go_simp; (try with_reducible rfl)
   refine' tkE 20 37 hS ?_ ?_; rotate_left
   ·intro W' hSW; go_simp; (try with_reducible rfl)
   refine' tkE 21 38 hS ?_ ?_; rotate_left
   ·intro W' hSW; have k0:=pw_cell_below ((below_drew (Below.refl _ _)).trans hSW) y1.out; go_simp; (try with_reducible rfl)
   refine' tkE 22 39 hS ?_ ?_; rotate_left
   ·intro W' hSW; go_simp; (try with_reducible rfl)
   refine' tkE 23 40 hS ?_ ?_; rotate_left
   ·intro W' hSW; go_simp; (try with_reducible rfl)
   refine' tkE 24 41 hS ?_ ?_; rotate_left
   ·intro W' hSW; go_simp; (try with_reducible rfl)
   refine' tkE 25 42 hS ?_ ?_; rotate_left
   ·intro W' hSW; go_simp; (try with_reducible rfl)
   refine' tkE 26 43 hS ?_ ?_; rotate_left
   ·intro W' hSW; go_simp; (try with_reducible rfl)
   refine' tkE 27 44 hS ?_ ?_; rotate_left
   ·intro W' hSW; go_simp; (try with_reducible rfl)
   refine' tkE 28 45 hS ?_ ?_; rotate_left
   ·intro W' hSW; go_simp; (try with_reducible rfl)
   refine' tkE 29 46 hS ?_ ?_; rotate_left
   ·intro W' hSW; have k0:=pw_cell_below ((below_drew (Below.refl _ _)).trans hSW) x3.out; go_simp; (try with_reducible rfl)
   refine' tkE 30 47 hS ?_ ?_; rotate_left
   ·intro W' hSW; go_simp; (try with_reducible rfl)
   refine' tkE 31 48 hS ?_ ?_; rotate_left
   ·intro W' hSW; go_simp; (try with_reducible rfl)
   refine' tkE 32 49 hS ?_ ?_; rotate_left
   ·intro W' hSW; go_simp; (try with_reducible rfl)
   refine' tkE 33 50 hS ?_ ?_; rotate_left
   ·intro W' hSW; go_simp; (try with_reducible rfl)
   refine' tkE 34 51 hS ?_ ?_; rotate_left
   ·intro W' hSW; have k0:=pw_cell_below ((below_drew (Below.refl _ _)).trans hSW) y3.out; go_simp; (try with_reducible rfl)
   refine' tkE 35 52 hS ?_ ?_; rotate_left
   ·intro W' hSW; go_simp; (try with_reducible rfl)
   refine' tkE 36 53 hS ?_ ?_; rotate_left
   ·intro W' hSW; go_simp; (try with_reducible rfl)
   refine' tkE 37 54 hS ?_ ?_; rotate_left
   ·intro W' hSW; go_simp; (try with_reducible rfl)
   refine' tkE 38 55 hS ?_ ?_; rotate_left
   ·intro W' hSW; go_simp; (try with_reducible rfl)
   refine' tkE 39 56 hS ?_ ?_; rotate_left
   ·intro W' hSW; go_simp; (try with_reducible rfl)
   refine' tkE 40 57 hS ?_ ?_; rotate_left
   ·intro W' hSW; go_simp; (try with_reducible rfl)
   refine' tkE 41 58 hS ?_ ?_; rotate_left
   ·intro W' hSW; go_simp; (try with_reducible rfl)
   refine' tkE 42 59 hS ?_ ?_; rotate_left
   ·intro W' hSW; have k0:=pw_cell_below ((below_drew (Below.refl _ _)).trans hSW) x2.out; go_simp; (try with_reducible rfl)
   refine' tkE 43 60 hS ?_ ?_; rotate_left
   ·intro W' hSW; go_simp; (try with_reducible rfl)
   refine' tkE 44 61 hS ?_ ?_; rotate_left
   ·intro W' hSW; go_simp; (try with_reducible rfl)
   refine' tkE 45 62 hS ?_ ?_; rotate_left
   ·intro W' hSW; go_simp; (try with_reducible rfl)
   refine' tkE 46 63 hS ?_ ?_; rotate_left
   ·intro W' hSW; go_simp; (try with_reducible rfl)
   refine' tkE 47 64 hS ?_ ?_; rotate_left
   ·intro W' hSW; have k0:=pw_cell_below ((below_drew (Below.refl _ _)).trans hSW) y2.out; go_simp; (try with_reducible rfl)
   simp only [Act.put,List.setIfInBounds_toArray,List.set_cons_zero,List.set_cons_succ]
   refine wpAnyH_ready (rs:=[48]) (by kernel_rfl) (by simp) (AllReadyH.cons rfl (fun K hK => ?_) AllReadyH.nil)
   go_simp
   refine (hLn.out _ ((below_drew (Below.refl _ _)).trans hS)).mono ?_
   rintro e W2 ⟨rfl,hb⟩
   have hS:=hS.trans (hb.mono hS.size)
   clear hb
   refine hK.out _ _ hS (fun _ => ?_)
   clear hK K
   refine' tkE 49 66 hS ?_ ?_; rotate_left
   ·intro W' hSW; go_simp; (try with_reducible rfl)
   refine' tkE 50 67 hS ?_ ?_; rotate_left
   ·intro W' hSW; go_simp; (try with_reducible rfl)
   simp only [Act.put,List.setIfInBounds_toArray,List.set_cons_zero,List.set_cons_succ]
   refine wpAnyH_done (by kernel_rfl) ?_ _
   have HS2:=Aside0.mk (B1.out.drew.trans (hS.mono B1.out.drew.size))
   go_wp2
   go_roundg (l.length - (i + 1))
   case measure => omega
   case rel => exact ⟨i + 1,by first | rfl | (rw [hwi]),by omega,HS2⟩
  ·have hdb : decide ((i : Int) < (l.length : Int)) = false:=decide_eq_false (by omega)
   go_wp2
   go_ret
   exact ⟨rfl,B1.out⟩
theorem L_at (b : Nat) (l : List S41) (A : Option Addr) (c : Nat) (ps : List S25) (P : Option Addr) (d : Nat) (w : World) (hr : Kd.C k41 w A l.length l) (hps : Kd.C k25 w P ps.length ps) (hb : Bnd b l) (hb0 : b ≤ 100000000) (hn : ps.length ≤ 100000) (hq : ∀ p ∈ ps,SmallQ p) :
  ∀ U,Below w.heap.size w U → Calls Tryz.prog 29 #[.slice A l.length c,.slice P ps.length d] U fun e w' =>
   ∃ S,e = .returned (.tuple #[S,.int .i64 (allE l ps).2.1,.int .i64 ((allE l ps).2.2 : Int)]) ∧ Below U.heap.size U w' ∧ ((allE l ps).2.1 = 0 → ∃ A c,S = .slice A (allE l ps).1.length c ∧ (allE l ps).1.length ≤ c ∧ Kd.C k41 w' A (allE l ps).1.length (allE l ps).1) ∧ ((allE l ps).2.1 ≠ 0 → S = .slice none 0 0):=by
 intro U hU
 refine (all_at l A c ps P d U (fun i M => i ≤ ps.length ∧ Bnd (b + 4000 * i) M) (Kd.C_below hr hU) (Kd.C_below hps hU) hb.s (by omega) (fun _ => ⟨Nat.zero_le _,hb⟩) ?_).mono ?_
 ·intro i M p hp hi
  have hil : i < ps.length:=(List.getElem?_eq_some_iff.1 hp).1
  have hs:=hq p (List.mem_of_getElem? hp)
  exact ⟨hi.2.fit (by omega),hs.fit,fun h0 => ⟨by omega,(bnd_do hi.2 hs h0).mono (by omega)⟩⟩
 ·rintro e w' ⟨hb,hi⟩
  by_cases hE : (allE l ps).2.1 = 0
  ·rw [if_pos hE] at hi
   obtain ⟨A',c',rfl,hl,hC⟩:=hi
   exact ⟨_,by rw [hE],hb,fun _ => ⟨A',c',rfl,hl,hC⟩,fun h => absurd hE h⟩
  ·rw [if_neg hE] at hi
   exact ⟨_,hi,hb,fun h => absurd h hE,fun _ => rfl⟩
end Go.Proofs.YthhohbidjhcjeaaGreatDoor.H
