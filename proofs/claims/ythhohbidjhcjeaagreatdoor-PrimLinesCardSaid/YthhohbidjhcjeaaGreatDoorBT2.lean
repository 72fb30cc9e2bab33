/- counterpaneref07.Right: it answers as tree.Right. -/
import Derived.Test.YthhohbidjhcjeaaGreatDoorBT1
import Derived.Test.YthhohbidjhcjeaaGreatDoorBM7
namespace Go.Proofs.YthhohbidjhcjeaaGreatDoor.H
open Go.RowKit Go.Shelf Go.Proofs.YthhohbidjhcjeaaGreatDoorW.PrintWords Go.Proofs.YthhohbidjhcjeaaGreatDoorW.PrintLast Go.Proofs.YthhohbidjhcjeaaGreatDoorW.PrintMore
open Go.Proofs.YthhohbidjhcjeaaGreatDoor.Q Go.Proofs.YthhohbidjhcjeaaGreatDoor.Pl
set_option linter.unusedVariables false
set_option linter.unusedSimpArgs false
/-- What the reference asks of each thing. -/
def parR (l : List S41) (x : S41) : Bool:=match parentV x.f0 with | none => true | some q => (findV l q).isSome && (thingAt l q).f1 == 1
def stepR (l : List S41) (i : Nat) (x : S41) : Bool:=thingB x && (decide (i = 0) || ltP (l.getD (i - 1) z41).f0 x.f0) && parR l x
theorem srt_steps : ∀ (l : List S41),(∀ i,i + 1 < l.length → ltP (l.getD i z41).f0 (l.getD (i + 1) z41).f0 = true) → Srt l
 | [],_ => List.Pairwise.nil
 | x :: l,h => by
  have ih:=srt_steps l (fun i hi => by have:=h (i + 1) (by rw [List.length_cons]; omega); simpa using this)
  refine srt_cons.2 ⟨?_,ih⟩
  cases l with
  | nil => intro y hy; cases hy
  | cons z r =>
   have hxz : ltP x.f0 z.f0 = true:=by have:=h 0 (by rw [List.length_cons,List.length_cons]; omega); simpa using this
   intro y hy
   rcases List.mem_cons.1 hy with e | hy
   ·rw [e]; exact hxz
   ·exact ltP_trans hxz ((srt_cons.1 ih).1 y hy)
theorem tree_steps {l : List S41} (h : l.length ≤ 1024) : treeB l = true ↔ ∀ (i : Nat) (hi : i < l.length),stepR l i l[i] = true:=by
 rw [tree_iff]
 constructor
 ·intro ht i hi
  have hm : l[i] ∈ l:=List.getElem_mem hi
  unfold stepR parR
  rw [ht.t _ hm,Bool.true_and,Bool.and_eq_true]
  constructor
  ·rcases Nat.eq_zero_or_pos i with h0 | h0
   ·rw [decide_eq_true h0]; rfl
   ·rw [Bool.or_eq_true]
    right
    have:=srt_get ht.s (a:=i - 1) (b:=i) (by omega) hi
    rwa [getD_get hi] at this
  ·cases hp : parentV l[i].f0 with
   | none => rfl
   | some q =>
    obtain ⟨y,hy,e1,e2⟩:=ht.p _ hm q hp
    have hf : findV l q = some y:=by rw [← e1]; exact find_of_mem ht.s hy
    show ((findV l q).isSome && (thingAt l q).f1 == 1) = true
    unfold thingAt
    rw [hf]
    simp [e2]
 ·intro hs
  have hall : ∀ x ∈ l,thingB x = true ∧ parR l x = true:=by
   intro x hx
   obtain ⟨i,hi,rfl⟩:=List.getElem_of_mem hx
   have:=hs i hi
   unfold stepR at this
   simp only [Bool.and_eq_true] at this
   exact ⟨this.1.1,this.2⟩
  refine ⟨h,srt_steps l (fun i hi => ?_),fun x hx => (hall x hx).1,fun x hx q hq => ?_⟩
  ·have:=hs (i + 1) hi
   unfold stepR at this
   simp only [Bool.and_eq_true,Bool.or_eq_true,decide_eq_true_eq] at this
   have h2:=this.1.2
   rw [getD_get hi]
   rcases h2 with h2 | h2
   ·omega
   ·simpa using h2
  ·have:=(hall x hx).2
   unfold parR at this
   rw [hq] at this
   simp only [Bool.and_eq_true,beq_iff_eq] at this
   obtain ⟨h1,h2⟩:=this
   cases hf : findV l q with
   | none => rw [hf] at h1; cases h1
   | some y =>
    unfold thingAt at h2
    rw [hf] at h2
    exact ⟨y,(find_mem hf).1,(find_mem hf).2,h2⟩

set_option maxHeartbeats 32000000 in
set_option maxRecDepth 1000000 in
theorem treeR_at (l : List S41) (A : Option Addr) (c : Nat) (w : World) (hr : Kd.C k41 w A l.length l) (hc : l.length ≤ c) (hp : ∀ x ∈ l,x.f0.size ≤ 1000000000000) (hn2 : ∀ x ∈ l,x.f2.length ≤ 140737488355328) (ht2 : ∀ x ∈ l,∀ s ∈ x.f2,s.size ≤ 140737488355328) :
  Calls Tryz.prog 31 #[.slice A l.length c] w fun e w' => e = .returned (.bool (treeB l)) ∧ Below w.heap.size w w':=by
 have HR:=Aside0.mk hr
 have HP:=Aside0.mk hp
 have HN2:=Aside0.mk hn2
 have HT2:=Aside0.mk ht2
 have HC:=Aside0.mk hc
 have hn63 : l.length ≤ 9223372036854775807:=hr.2.1
 clear hr hp hn2 ht2 hc
 by_cases hbig : l.length ≤ 1024
 ·have hb1 : decide ((l.length : Int) > 1024) = false:=decide_eq_false (by omega)
  have hb2 : decide ((1024 : Int) < (l.length : Int)) = false:=decide_eq_false (by omega)
  obtain ⟨T,hT⟩ : ∃ T,treeB l = T:=⟨_,rfl⟩
  rw [hT]
  have HT:=Aside0.mk hT
  have HN : Aside0 (l.length ≤ 140737488355328):=⟨by omega⟩
  have B0 : Aside0 (Below w.heap.size w w):=⟨Below.refl _ _⟩
  have S0 : Aside0 (∀ (j : Nat) (hj : j < l.length),j < 0 → stepR l j l[j] = true):=⟨fun j _ h => absurd h (Nat.not_lt_zero _)⟩
  clear hT
  go_enter Tryz.func31,Tryz.ntmps31
  go_wp2
  go_loopg [3] l.length (fun kx s3 wr => ∃ i : Nat,s3 = .int .i64 i ∧ i + kx = l.length ∧ Aside0 (Below w.heap.size w wr) ∧ Aside0 (∀ (j : Nat) (hj : j < l.length),j < i → stepR l j l[j] = true))
  case atStart => exact ⟨0,rfl,by omega,B0,S0⟩
  case round =>
   clear B0 S0
   obtain ⟨i,rfl,hi,B1,S1⟩:=hrel
   by_cases hlt : i < l.length
   ·have hi0 : (0 : Int) ≤ (i : Int):=by omega
    have hi1 : (i : Int) < (l.length : Int):=by omega
    have hdb : decide ((i : Int) < (l.length : Int)) = true:=decide_eq_true hi1
    have hwi : IntKind.i64.wrap ((i : Int) + 1) = ((i + 1 : Nat) : Int):=by rw [wrap_small _ (by omega) (by omega)]; omega
    obtain ⟨ad,X,d,rfl,rx,q0,q1,q2,q3⟩:=ent_at (Kd.C_below HR.out B1.out) i hlt rfl
    obtain ⟨x,hx⟩ : ∃ x,l.getD i z41 = x:=⟨_,rfl⟩
    rw [hx] at rx q0 q1 q2 q3
    have hxi : l[i] = x:=by rw [← hx,getD_get hlt]
    have hxm : x ∈ l:=by rw [← hxi]; exact List.getElem_mem hlt
    have HSZ:=Aside0.mk (HP.out x hxm)
    have HSN:=Aside0.mk (HN2.out x hxm)
    have HST:=Aside0.mk (HT2.out x hxm)
    have HNO : Aside0 (stepR l i x = false → Aside0 (T = false)):=⟨fun h => ⟨by
     rw [← HT.out]
     cases ht : treeB l with
     | false => rfl
     | true =>
      have:=(tree_steps hbig).1 ht i hlt
      rw [hxi,h] at this
      cases this⟩⟩
    have HNX : Aside0 (stepR l i x = true → Aside0 (∀ (j : Nat) (hj : j < l.length),j < i + 1 → stepR l j l[j] = true)):=⟨fun h => ⟨fun j hj hji => by
     rcases Nat.lt_or_ge j i with k | k
     ·exact S1.out j hj k
     ·have : j = i:=by omega
      subst this
      rw [hxi]; exact h⟩⟩
    have HTH : Aside0 (thingB x = true → thingB x = true):=⟨id⟩
    have hPa:=fun W => parentR_at x.f0 (Nat.le_trans HSZ.out (by decide)) W
    have RX:=Aside0.mk rx
    have HB2 : Aside0 (Below w.heap.size w (wr.alloc (.cells #[.string x.f0,.int .i64 x.f1,.slice X x.f2.length d,.string x.f3] 41))):=⟨below_alloc B1.out _⟩
    have HXB : Aside0 ((wr.alloc (.cells #[.string x.f0,.int .i64 x.f1,.slice X x.f2.length d,.string x.f3] 41)).heap[wr.heap.size]? = some (.cells #[.string x.f0,.int .i64 x.f1,.slice X x.f2.length d,.string x.f3] 41 (0,0))):=⟨blk_new _ _⟩
    obtain ⟨k0,k1,k2,k3⟩:=cells4 HXB.out
    clear hx hxi hxm rx
    go_upto_region 7 with (fail)
    generalize hwr2 : wr.alloc (.cells #[.string x.f0,.int .i64 x.f1,.slice X x.f2.length d,.string x.f3] 41) = wr2 at HB2 HXB k0 k1 k2 k3 ⊢
    have hw2b : Below wr.heap.size wr wr2:=by rw [← hwr2]; exact below_alloc (Below.refl _ _) _
    have hRt:=fun W => rightR_at x.f0 (Nat.le_trans HSZ.out (by decide)) W
    have hLn : ∀ W,Below wr2.heap.size wr2 W → Calls Tryz.prog 70 #[.slice X x.f2.length d] W fun e w' => e = .returned (.bool (linesB x.f2)) ∧ Below W.heap.size W w':=fun W hb => linesR_at x.f2 X d W HSN.out HST.out (RX.out.later (hw2b.trans (hb.mono hw2b.size))).g RX.out.l
    have HW2B:=Aside0.mk hw2b
    obtain ⟨c1,hc1⟩ : ∃ c1,rightB x.f0 = c1:=⟨_,rfl⟩
    rw [hc1] at hRt
    have HC1:=Aside0.mk hc1
    clear hwr2 hw2b hc1 k0 k1 k2 k3 q0 q1 q2 q3
    cases c1 with
    | false =>
     have hno : Aside0 (T = false):=HNO.out (by unfold stepR thingB; rw [HC1.out]; rfl)
     refine wp_region_held_drew (S:=Below wr2.drew.heap.size wr2.drew) (by kernel_rfl) (Below.refl _ _) (fun hS => ?_)
     refine tkH (v:=?_) 0 (some 22) rfl rfl (by kernel_rfl) (by kernel_rfl) (fun _ _ _ h => h) (fun W' hSW => ?_) hS ?_
     rotate_left
     ·go_simp; (try with_reducible rfl)
     simp only [Act.put,List.setIfInBounds_toArray,List.set_cons_zero,List.set_cons_succ]
     refine tkH (v:=?_) 1 (some 23) rfl rfl (by kernel_rfl) (by kernel_rfl) (fun _ _ _ h => h) (fun W' hSW => ?_) hS ?_
     rotate_left
     ·obtain ⟨k0,k1,k2,k3⟩:=cells4 (blk_below (blk_drew HXB.out) hSW); go_simp; (try with_reducible rfl)
     simp only [Act.put,List.setIfInBounds_toArray,List.set_cons_zero,List.set_cons_succ]
     refine wpAnyH_ready (rs:=[2]) (by kernel_rfl) (by simp) (AllReadyH.cons rfl (fun K hK => ?_) AllReadyH.nil)
     go_simp
     refine (hRt _).mono ?_
     rintro e W2 ⟨rfl,hb⟩
     have hS:=hS.trans (hb.mono hS.size)
     clear hb
     refine hK.out _ _ hS (fun _ => ?_)
     clear hK K
     refine tkH (v:=?_) 3 (some 25) rfl rfl (by kernel_rfl) (by kernel_rfl) (fun _ _ _ h => h) (fun W' hSW => ?_) hS ?_
     rotate_left
     ·go_simp; (try with_reducible rfl)
     simp only [Act.put,List.setIfInBounds_toArray,List.set_cons_zero,List.set_cons_succ]
     refine tkH (v:=?_) 4 (some 26) rfl rfl (by kernel_rfl) (by kernel_rfl) (fun _ _ _ h => h) (fun W' hSW => ?_) hS ?_
     rotate_left
     ·go_simp; (try with_reducible rfl)
     simp only [Act.put,List.setIfInBounds_toArray,List.set_cons_zero,List.set_cons_succ]
     refine tkUs (fun _ _ _ _ h => h) hS [(5,27),(6,28),(7,29),(8,30),(9,31),(10,32),(11,33),(12,34),(13,35),(14,36),(15,37),(16,38),(17,39)] 11 rfl (by kernel_rfl) ?_
     simp only [skipL,skipP,Act.put,List.setIfInBounds_toArray,List.set_cons_zero,List.set_cons_succ]
     refine tkH (v:=?_) 18 (some 40) rfl rfl (by kernel_rfl) (by kernel_rfl) (fun _ _ _ h => h) (fun W' hSW => ?_) hS ?_
     rotate_left
     ·go_simp; (try with_reducible rfl)
     simp only [Act.put,List.setIfInBounds_toArray,List.set_cons_zero,List.set_cons_succ]
     refine tkH (v:=?_) 19 (some 41) rfl rfl (by kernel_rfl) (by kernel_rfl) (fun _ _ _ h => h) (fun W' hSW => ?_) hS ?_
     rotate_left
     ·go_simp; (try with_reducible rfl)
     simp only [Act.put,List.setIfInBounds_toArray,List.set_cons_zero,List.set_cons_succ]
     refine tkUs (fun _ _ _ _ h => h) hS [(20,42),(21,43),(22,44)] 6 rfl (by kernel_rfl) ?_
     simp only [skipL,skipP,Act.put,List.setIfInBounds_toArray,List.set_cons_zero,List.set_cons_succ]
     refine tkH (v:=?_) 23 (some 45) rfl rfl (by kernel_rfl) (by kernel_rfl) (fun _ _ _ h => h) (fun W' hSW => ?_) hS ?_
     rotate_left
     ·go_simp; (try with_reducible rfl)
     simp only [Act.put,List.setIfInBounds_toArray,List.set_cons_zero,List.set_cons_succ]
     refine tkH (v:=?_) 24 (some 46) rfl rfl (by kernel_rfl) (by kernel_rfl) (fun _ _ _ h => h) (fun W' hSW => ?_) hS ?_
     rotate_left
     ·go_simp; (try with_reducible rfl)
     simp only [Act.put,List.setIfInBounds_toArray,List.set_cons_zero,List.set_cons_succ]
     refine tkUs (fun _ _ _ _ h => h) hS [(25,47),(26,48),(27,49)] 1 rfl (by kernel_rfl) ?_
     simp only [skipL,skipP,Act.put,List.setIfInBounds_toArray,List.set_cons_zero,List.set_cons_succ]
     refine tkH (v:=?_) 28 (some 50) rfl rfl (by kernel_rfl) (by kernel_rfl) (fun _ _ _ h => h) (fun W' hSW => ?_) hS ?_
     rotate_left
     ·go_simp; (try with_reducible rfl)
     simp only [Act.put,List.setIfInBounds_toArray,List.set_cons_zero,List.set_cons_succ]
     refine wpAnyH_done (by kernel_rfl) ?_ _
     go_wp2
     go_ret
     exact ⟨by rw [hno.out]; rfl,HB2.out.drew.trans (hS.mono HB2.out.drew.size)⟩
    | true =>
     rcases Nat.eq_zero_or_pos i with hi00 | hpos
     ·have hgt : decide ((i : Int) > 0) = false:=decide_eq_false (by omega)
      have hgt2 : decide ((0 : Int) < (i : Int)) = false:=decide_eq_false (by omega)
      have hgt3 : (0 < i) = False:=eq_false (by omega)
      have hgt4 : decide (0 < i) = false:=decide_eq_false (by omega)
      have HRI : Aside0 ((decide (i = 0) || ltP (l.getD (i - 1) z41).f0 x.f0) = true):=⟨by rw [decide_eq_true hi00]; rfl⟩
      have HI0:=Aside0.mk hi00
      clear hi00
      by_cases hka : x.f1 < 1
      ·have hka2 : decide (x.f1 < 1) = true:=decide_eq_true hka
       have hno : Aside0 (T = false):=HNO.out (by unfold stepR thingB; rw [decide_eq_false (show ¬ (1 : Int) ≤ x.f1 by omega)]; simp)
       clear hka hLn
       refine wp_region_held_drew (S:=Below wr2.drew.heap.size wr2.drew) (by kernel_rfl) (Below.refl _ _) (fun hS => ?_)
       refine tkH (v:=?_) 0 (some 22) rfl rfl (by kernel_rfl) (by kernel_rfl) (fun _ _ _ h => h) (fun W' hSW => ?_) hS ?_
       rotate_left
       ·go_simp; (try with_reducible rfl)
       simp only [Act.put,List.setIfInBounds_toArray,List.set_cons_zero,List.set_cons_succ]
       refine tkH (v:=?_) 1 (some 23) rfl rfl (by kernel_rfl) (by kernel_rfl) (fun _ _ _ h => h) (fun W' hSW => ?_) hS ?_
       rotate_left
       ·obtain ⟨k0,k1,k2,k3⟩:=cells4 (blk_below (blk_drew HXB.out) hSW); go_simp; (try with_reducible rfl)
       simp only [Act.put,List.setIfInBounds_toArray,List.set_cons_zero,List.set_cons_succ]
       refine wpAnyH_ready (rs:=[2]) (by kernel_rfl) (by simp) (AllReadyH.cons rfl (fun K hK => ?_) AllReadyH.nil)
       go_simp
       refine (hRt _).mono ?_
       rintro e W2 ⟨rfl,hb⟩
       have hS:=hS.trans (hb.mono hS.size)
       clear hb
       refine hK.out _ _ hS (fun _ => ?_)
       clear hK K
       refine tkH (v:=?_) 3 (some 25) rfl rfl (by kernel_rfl) (by kernel_rfl) (fun _ _ _ h => h) (fun W' hSW => ?_) hS ?_
       rotate_left
       ·go_simp; (try with_reducible rfl)
       simp only [Act.put,List.setIfInBounds_toArray,List.set_cons_zero,List.set_cons_succ]
       refine tkH (v:=?_) 4 (some 26) rfl rfl (by kernel_rfl) (by kernel_rfl) (fun _ _ _ h => h) (fun W' hSW => ?_) hS ?_
       rotate_left
       ·go_simp; (try with_reducible rfl)
       simp only [Act.put,List.setIfInBounds_toArray,List.set_cons_zero,List.set_cons_succ]
       refine tkH (v:=?_) 5 (some 27) rfl rfl (by kernel_rfl) (by kernel_rfl) (fun _ _ _ h => h) (fun W' hSW => ?_) hS ?_
       rotate_left
       ·go_simp; (try with_reducible rfl)
       simp only [Act.put,List.setIfInBounds_toArray,List.set_cons_zero,List.set_cons_succ]
       refine tkH (v:=?_) 6 (some 28) rfl rfl (by kernel_rfl) (by kernel_rfl) (fun _ _ _ h => h) (fun W' hSW => ?_) hS ?_
       rotate_left
       ·go_simp; (try with_reducible rfl)
       simp only [Act.put,List.setIfInBounds_toArray,List.set_cons_zero,List.set_cons_succ]
       refine tkH (v:=?_) 7 (some 29) rfl rfl (by kernel_rfl) (by kernel_rfl) (fun _ _ _ h => h) (fun W' hSW => ?_) hS ?_
       rotate_left
       ·go_simp; (try with_reducible rfl)
       simp only [Act.put,List.setIfInBounds_toArray,List.set_cons_zero,List.set_cons_succ]
       refine tkUs (fun _ _ _ _ h => h) hS [(8,30),(9,31),(10,32),(11,33),(12,34),(13,35),(14,36),(15,37),(16,38)] 12 rfl (by kernel_rfl) ?_
       simp only [skipL,skipP,Act.put,List.setIfInBounds_toArray,List.set_cons_zero,List.set_cons_succ]
       refine tkH (v:=?_) 17 (some 39) rfl rfl (by kernel_rfl) (by kernel_rfl) (fun _ _ _ h => h) (fun W' hSW => ?_) hS ?_
       rotate_left
       ·go_simp; (try with_reducible rfl)
       simp only [Act.put,List.setIfInBounds_toArray,List.set_cons_zero,List.set_cons_succ]
       refine tkH (v:=?_) 18 (some 40) rfl rfl (by kernel_rfl) (by kernel_rfl) (fun _ _ _ h => h) (fun W' hSW => ?_) hS ?_
       rotate_left
       ·go_simp; (try with_reducible rfl)
       simp only [Act.put,List.setIfInBounds_toArray,List.set_cons_zero,List.set_cons_succ]
       refine tkH (v:=?_) 19 (some 41) rfl rfl (by kernel_rfl) (by kernel_rfl) (fun _ _ _ h => h) (fun W' hSW => ?_) hS ?_
       rotate_left
       ·go_simp; (try with_reducible rfl)
       simp only [Act.put,List.setIfInBounds_toArray,List.set_cons_zero,List.set_cons_succ]
       refine tkH (v:=?_) 20 (some 42) rfl rfl (by kernel_rfl) (by kernel_rfl) (fun _ _ _ h => h) (fun W' hSW => ?_) hS ?_
       rotate_left
       ·go_simp; (try with_reducible rfl)
       simp only [Act.put,List.setIfInBounds_toArray,List.set_cons_zero,List.set_cons_succ]
       refine tkH (v:=?_) 21 (some 43) rfl rfl (by kernel_rfl) (by kernel_rfl) (fun _ _ _ h => h) (fun W' hSW => ?_) hS ?_
       rotate_left
       ·obtain ⟨k0,k1,k2,k3⟩:=cells4 (blk_below (blk_drew HXB.out) hSW); go_simp; (try with_reducible rfl)
       simp only [Act.put,List.setIfInBounds_toArray,List.set_cons_zero,List.set_cons_succ]
       refine tkH (v:=?_) 22 (some 44) rfl rfl (by kernel_rfl) (by kernel_rfl) (fun _ _ _ h => h) (fun W' hSW => ?_) hS ?_
       rotate_left
       ·go_simp; (try with_reducible rfl)
       simp only [Act.put,List.setIfInBounds_toArray,List.set_cons_zero,List.set_cons_succ]
       refine tkH (v:=?_) 23 (some 45) rfl rfl (by kernel_rfl) (by kernel_rfl) (fun _ _ _ h => h) (fun W' hSW => ?_) hS ?_
       rotate_left
       ·go_simp; (try with_reducible rfl)
       simp only [Act.put,List.setIfInBounds_toArray,List.set_cons_zero,List.set_cons_succ]
       refine tkH (v:=?_) 24 (some 46) rfl rfl (by kernel_rfl) (by kernel_rfl) (fun _ _ _ h => h) (fun W' hSW => ?_) hS ?_
       rotate_left
       ·go_simp; (try with_reducible rfl)
       simp only [Act.put,List.setIfInBounds_toArray,List.set_cons_zero,List.set_cons_succ]
       refine tkUs (fun _ _ _ _ h => h) hS [(25,47),(26,48),(27,49)] 1 rfl (by kernel_rfl) ?_
       simp only [skipL,skipP,Act.put,List.setIfInBounds_toArray,List.set_cons_zero,List.set_cons_succ]
       refine tkH (v:=?_) 28 (some 50) rfl rfl (by kernel_rfl) (by kernel_rfl) (fun _ _ _ h => h) (fun W' hSW => ?_) hS ?_
       rotate_left
       ·go_simp; (try with_reducible rfl)
       simp only [Act.put,List.setIfInBounds_toArray,List.set_cons_zero,List.set_cons_succ]
       refine wpAnyH_done (by kernel_rfl) ?_ _
       go_wp2
       go_ret
       exact ⟨by rw [hno.out]; rfl,HB2.out.drew.trans (hS.mono HB2.out.drew.size)⟩
      ·have hka2 : decide (x.f1 < 1) = false:=decide_eq_false hka
       replace hka : (1 : Int) ≤ x.f1:=by omega
       by_cases hkb : x.f1 > 3
       ·have hkb2 : decide (x.f1 > 3) = true:=decide_eq_true hkb
        have hkb3 : decide ((3 : Int) < x.f1) = true:=decide_eq_true hkb
        have hno : Aside0 (T = false):=HNO.out (by unfold stepR thingB; rw [decide_eq_false (show ¬ x.f1 ≤ 3 by omega)]; simp)
        clear hka hkb hLn
        refine wp_region_held_drew (S:=Below wr2.drew.heap.size wr2.drew) (by kernel_rfl) (Below.refl _ _) (fun hS => ?_)
        refine tkH (v:=?_) 0 (some 22) rfl rfl (by kernel_rfl) (by kernel_rfl) (fun _ _ _ h => h) (fun W' hSW => ?_) hS ?_
        rotate_left
        ·go_simp; (try with_reducible rfl)
        simp only [Act.put,List.setIfInBounds_toArray,List.set_cons_zero,List.set_cons_succ]
        refine tkH (v:=?_) 1 (some 23) rfl rfl (by kernel_rfl) (by kernel_rfl) (fun _ _ _ h => h) (fun W' hSW => ?_) hS ?_
        rotate_left
        ·obtain ⟨k0,k1,k2,k3⟩:=cells4 (blk_below (blk_drew HXB.out) hSW); go_simp; (try with_reducible rfl)
        simp only [Act.put,List.setIfInBounds_toArray,List.set_cons_zero,List.set_cons_succ]
        refine wpAnyH_ready (rs:=[2]) (by kernel_rfl) (by simp) (AllReadyH.cons rfl (fun K hK => ?_) AllReadyH.nil)
        go_simp
        refine (hRt _).mono ?_
        rintro e W2 ⟨rfl,hb⟩
        have hS:=hS.trans (hb.mono hS.size)
        clear hb
        refine hK.out _ _ hS (fun _ => ?_)
        clear hK K
        refine tkH (v:=?_) 3 (some 25) rfl rfl (by kernel_rfl) (by kernel_rfl) (fun _ _ _ h => h) (fun W' hSW => ?_) hS ?_
        rotate_left
        ·go_simp; (try with_reducible rfl)
        simp only [Act.put,List.setIfInBounds_toArray,List.set_cons_zero,List.set_cons_succ]
        refine tkH (v:=?_) 4 (some 26) rfl rfl (by kernel_rfl) (by kernel_rfl) (fun _ _ _ h => h) (fun W' hSW => ?_) hS ?_
        rotate_left
        ·go_simp; (try with_reducible rfl)
        simp only [Act.put,List.setIfInBounds_toArray,List.set_cons_zero,List.set_cons_succ]
        refine tkH (v:=?_) 5 (some 27) rfl rfl (by kernel_rfl) (by kernel_rfl) (fun _ _ _ h => h) (fun W' hSW => ?_) hS ?_
        rotate_left
        ·go_simp; (try with_reducible rfl)
        simp only [Act.put,List.setIfInBounds_toArray,List.set_cons_zero,List.set_cons_succ]
        refine tkH (v:=?_) 6 (some 28) rfl rfl (by kernel_rfl) (by kernel_rfl) (fun _ _ _ h => h) (fun W' hSW => ?_) hS ?_
        rotate_left
        ·go_simp; (try with_reducible rfl)
        simp only [Act.put,List.setIfInBounds_toArray,List.set_cons_zero,List.set_cons_succ]
        refine tkH (v:=?_) 7 (some 29) rfl rfl (by kernel_rfl) (by kernel_rfl) (fun _ _ _ h => h) (fun W' hSW => ?_) hS ?_
        rotate_left
        ·go_simp; (try with_reducible rfl)
        simp only [Act.put,List.setIfInBounds_toArray,List.set_cons_zero,List.set_cons_succ]
        refine tkUs (fun _ _ _ _ h => h) hS [(8,30),(9,31),(10,32),(11,33),(12,34),(13,35),(14,36),(15,37),(16,38)] 12 rfl (by kernel_rfl) ?_
        simp only [skipL,skipP,Act.put,List.setIfInBounds_toArray,List.set_cons_zero,List.set_cons_succ]
        refine tkH (v:=?_) 17 (some 39) rfl rfl (by kernel_rfl) (by kernel_rfl) (fun _ _ _ h => h) (fun W' hSW => ?_) hS ?_
        rotate_left
        ·go_simp; (try with_reducible rfl)
        simp only [Act.put,List.setIfInBounds_toArray,List.set_cons_zero,List.set_cons_succ]
        refine tkH (v:=?_) 18 (some 40) rfl rfl (by kernel_rfl) (by kernel_rfl) (fun _ _ _ h => h) (fun W' hSW => ?_) hS ?_
        rotate_left
        ·go_simp; (try with_reducible rfl)
        simp only [Act.put,List.setIfInBounds_toArray,List.set_cons_zero,List.set_cons_succ]
        refine tkH (v:=?_) 19 (some 41) rfl rfl (by kernel_rfl) (by kernel_rfl) (fun _ _ _ h => h) (fun W' hSW => ?_) hS ?_
        rotate_left
        ·go_simp; (try with_reducible rfl)
        simp only [Act.put,List.setIfInBounds_toArray,List.set_cons_zero,List.set_cons_succ]
        refine tkH (v:=?_) 20 (some 42) rfl rfl (by kernel_rfl) (by kernel_rfl) (fun _ _ _ h => h) (fun W' hSW => ?_) hS ?_
        rotate_left
        ·go_simp; (try with_reducible rfl)
        simp only [Act.put,List.setIfInBounds_toArray,List.set_cons_zero,List.set_cons_succ]
        refine tkH (v:=?_) 21 (some 43) rfl rfl (by kernel_rfl) (by kernel_rfl) (fun _ _ _ h => h) (fun W' hSW => ?_) hS ?_
        rotate_left
        ·obtain ⟨k0,k1,k2,k3⟩:=cells4 (blk_below (blk_drew HXB.out) hSW); go_simp; (try with_reducible rfl)
        simp only [Act.put,List.setIfInBounds_toArray,List.set_cons_zero,List.set_cons_succ]
        refine tkH (v:=?_) 22 (some 44) rfl rfl (by kernel_rfl) (by kernel_rfl) (fun _ _ _ h => h) (fun W' hSW => ?_) hS ?_
        rotate_left
        ·go_simp; (try with_reducible rfl)
        simp only [Act.put,List.setIfInBounds_toArray,List.set_cons_zero,List.set_cons_succ]
        refine tkH (v:=?_) 23 (some 45) rfl rfl (by kernel_rfl) (by kernel_rfl) (fun _ _ _ h => h) (fun W' hSW => ?_) hS ?_
        rotate_left
        ·go_simp; (try with_reducible rfl)
        simp only [Act.put,List.setIfInBounds_toArray,List.set_cons_zero,List.set_cons_succ]
        refine tkH (v:=?_) 24 (some 46) rfl rfl (by kernel_rfl) (by kernel_rfl) (fun _ _ _ h => h) (fun W' hSW => ?_) hS ?_
        rotate_left
        ·go_simp; (try with_reducible rfl)
        simp only [Act.put,List.setIfInBounds_toArray,List.set_cons_zero,List.set_cons_succ]
        refine tkH (v:=?_) 25 (some 47) rfl rfl (by kernel_rfl) (by kernel_rfl) (fun _ _ _ h => h) (fun W' hSW => ?_) hS ?_
        rotate_left
        ·go_simp; (try with_reducible rfl)
        simp only [Act.put,List.setIfInBounds_toArray,List.set_cons_zero,List.set_cons_succ]
        refine tkH (v:=?_) 26 (some 48) rfl rfl (by kernel_rfl) (by kernel_rfl) (fun _ _ _ h => h) (fun W' hSW => ?_) hS ?_
        rotate_left
        ·obtain ⟨k0,k1,k2,k3⟩:=cells4 (blk_below (blk_drew HXB.out) hSW); go_simp; (try with_reducible rfl)
        simp only [Act.put,List.setIfInBounds_toArray,List.set_cons_zero,List.set_cons_succ]
        refine tkH (v:=?_) 27 (some 49) rfl rfl (by kernel_rfl) (by kernel_rfl) (fun _ _ _ h => h) (fun W' hSW => ?_) hS ?_
        rotate_left
        ·go_simp; (try with_reducible rfl)
        simp only [Act.put,List.setIfInBounds_toArray,List.set_cons_zero,List.set_cons_succ]
        refine tkH (v:=?_) 28 (some 50) rfl rfl (by kernel_rfl) (by kernel_rfl) (fun _ _ _ h => h) (fun W' hSW => ?_) hS ?_
        rotate_left
        ·go_simp; (try with_reducible rfl)
        simp only [Act.put,List.setIfInBounds_toArray,List.set_cons_zero,List.set_cons_succ]
        refine wpAnyH_done (by kernel_rfl) ?_ _
        go_wp2
        go_ret
        exact ⟨by rw [hno.out]; rfl,HB2.out.drew.trans (hS.mono HB2.out.drew.size)⟩
       ·have hkb2 : decide (x.f1 > 3) = false:=decide_eq_false hkb
        have hkb3 : decide ((3 : Int) < x.f1) = false:=decide_eq_false hkb
        replace hkb : x.f1 ≤ 3:=by omega
        refine wp_region_held_drew (S:=Below wr2.drew.heap.size wr2.drew) (by kernel_rfl) (Below.refl _ _) (fun hS => ?_)
        refine tkH (v:=?_) 0 (some 22) rfl rfl (by kernel_rfl) (by kernel_rfl) (fun _ _ _ h => h) (fun W' hSW => ?_) hS ?_
        rotate_left
        ·go_simp; (try with_reducible rfl)
        simp only [Act.put,List.setIfInBounds_toArray,List.set_cons_zero,List.set_cons_succ]
        refine tkH (v:=?_) 1 (some 23) rfl rfl (by kernel_rfl) (by kernel_rfl) (fun _ _ _ h => h) (fun W' hSW => ?_) hS ?_
        rotate_left
        ·obtain ⟨k0,k1,k2,k3⟩:=cells4 (blk_below (blk_drew HXB.out) hSW); go_simp; (try with_reducible rfl)
        simp only [Act.put,List.setIfInBounds_toArray,List.set_cons_zero,List.set_cons_succ]
        refine wpAnyH_ready (rs:=[2]) (by kernel_rfl) (by simp) (AllReadyH.cons rfl (fun K hK => ?_) AllReadyH.nil)
        go_simp
        refine (hRt _).mono ?_
        rintro e W2 ⟨rfl,hb⟩
        have hS:=hS.trans (hb.mono hS.size)
        clear hb
        refine hK.out _ _ hS (fun _ => ?_)
        clear hK K
        refine tkH (v:=?_) 3 (some 25) rfl rfl (by kernel_rfl) (by kernel_rfl) (fun _ _ _ h => h) (fun W' hSW => ?_) hS ?_
        rotate_left
        ·go_simp; (try with_reducible rfl)
        simp only [Act.put,List.setIfInBounds_toArray,List.set_cons_zero,List.set_cons_succ]
        refine tkH (v:=?_) 4 (some 26) rfl rfl (by kernel_rfl) (by kernel_rfl) (fun _ _ _ h => h) (fun W' hSW => ?_) hS ?_
        rotate_left
        ·go_simp; (try with_reducible rfl)
        simp only [Act.put,List.setIfInBounds_toArray,List.set_cons_zero,List.set_cons_succ]
        refine tkH (v:=?_) 5 (some 27) rfl rfl (by kernel_rfl) (by kernel_rfl) (fun _ _ _ h => h) (fun W' hSW => ?_) hS ?_
        rotate_left
        ·go_simp; (try with_reducible rfl)
        simp only [Act.put,List.setIfInBounds_toArray,List.set_cons_zero,List.set_cons_succ]
        refine tkH (v:=?_) 6 (some 28) rfl rfl (by kernel_rfl) (by kernel_rfl) (fun _ _ _ h => h) (fun W' hSW => ?_) hS ?_
        rotate_left
        ·go_simp; (try with_reducible rfl)
        simp only [Act.put,List.setIfInBounds_toArray,List.set_cons_zero,List.set_cons_succ]
        refine tkH (v:=?_) 7 (some 29) rfl rfl (by kernel_rfl) (by kernel_rfl) (fun _ _ _ h => h) (fun W' hSW => ?_) hS ?_
        rotate_left
        ·go_simp; (try with_reducible rfl)
        simp only [Act.put,List.setIfInBounds_toArray,List.set_cons_zero,List.set_cons_succ]
        refine tkUs (fun _ _ _ _ h => h) hS [(8,30),(9,31),(10,32),(11,33),(12,34),(13,35),(14,36),(15,37),(16,38)] 12 rfl (by kernel_rfl) ?_
        simp only [skipL,skipP,Act.put,List.setIfInBounds_toArray,List.set_cons_zero,List.set_cons_succ]
        refine tkH (v:=?_) 17 (some 39) rfl rfl (by kernel_rfl) (by kernel_rfl) (fun _ _ _ h => h) (fun W' hSW => ?_) hS ?_
        rotate_left
        ·go_simp; (try with_reducible rfl)
        simp only [Act.put,List.setIfInBounds_toArray,List.set_cons_zero,List.set_cons_succ]
        refine tkH (v:=?_) 18 (some 40) rfl rfl (by kernel_rfl) (by kernel_rfl) (fun _ _ _ h => h) (fun W' hSW => ?_) hS ?_
        rotate_left
        ·go_simp; (try with_reducible rfl)
        simp only [Act.put,List.setIfInBounds_toArray,List.set_cons_zero,List.set_cons_succ]
        refine tkH (v:=?_) 19 (some 41) rfl rfl (by kernel_rfl) (by kernel_rfl) (fun _ _ _ h => h) (fun W' hSW => ?_) hS ?_
        rotate_left
        ·go_simp; (try with_reducible rfl)
        simp only [Act.put,List.setIfInBounds_toArray,List.set_cons_zero,List.set_cons_succ]
        refine tkH (v:=?_) 20 (some 42) rfl rfl (by kernel_rfl) (by kernel_rfl) (fun _ _ _ h => h) (fun W' hSW => ?_) hS ?_
        rotate_left
        ·go_simp; (try with_reducible rfl)
        simp only [Act.put,List.setIfInBounds_toArray,List.set_cons_zero,List.set_cons_succ]
        refine tkH (v:=?_) 21 (some 43) rfl rfl (by kernel_rfl) (by kernel_rfl) (fun _ _ _ h => h) (fun W' hSW => ?_) hS ?_
        rotate_left
        ·obtain ⟨k0,k1,k2,k3⟩:=cells4 (blk_below (blk_drew HXB.out) hSW); go_simp; (try with_reducible rfl)
        simp only [Act.put,List.setIfInBounds_toArray,List.set_cons_zero,List.set_cons_succ]
        refine tkH (v:=?_) 22 (some 44) rfl rfl (by kernel_rfl) (by kernel_rfl) (fun _ _ _ h => h) (fun W' hSW => ?_) hS ?_
        rotate_left
        ·go_simp; (try with_reducible rfl)
        simp only [Act.put,List.setIfInBounds_toArray,List.set_cons_zero,List.set_cons_succ]
        refine tkH (v:=?_) 23 (some 45) rfl rfl (by kernel_rfl) (by kernel_rfl) (fun _ _ _ h => h) (fun W' hSW => ?_) hS ?_
        rotate_left
        ·go_simp; (try with_reducible rfl)
        simp only [Act.put,List.setIfInBounds_toArray,List.set_cons_zero,List.set_cons_succ]
        refine tkH (v:=?_) 24 (some 46) rfl rfl (by kernel_rfl) (by kernel_rfl) (fun _ _ _ h => h) (fun W' hSW => ?_) hS ?_
        rotate_left
        ·go_simp; (try with_reducible rfl)
        simp only [Act.put,List.setIfInBounds_toArray,List.set_cons_zero,List.set_cons_succ]
        refine tkH (v:=?_) 25 (some 47) rfl rfl (by kernel_rfl) (by kernel_rfl) (fun _ _ _ h => h) (fun W' hSW => ?_) hS ?_
        rotate_left
        ·go_simp; (try with_reducible rfl)
        simp only [Act.put,List.setIfInBounds_toArray,List.set_cons_zero,List.set_cons_succ]
        refine tkH (v:=?_) 26 (some 48) rfl rfl (by kernel_rfl) (by kernel_rfl) (fun _ _ _ h => h) (fun W' hSW => ?_) hS ?_
        rotate_left
        ·obtain ⟨k0,k1,k2,k3⟩:=cells4 (blk_below (blk_drew HXB.out) hSW); go_simp; (try with_reducible rfl)
        simp only [Act.put,List.setIfInBounds_toArray,List.set_cons_zero,List.set_cons_succ]
        refine tkH (v:=?_) 27 (some 49) rfl rfl (by kernel_rfl) (by kernel_rfl) (fun _ _ _ h => h) (fun W' hSW => ?_) hS ?_
        rotate_left
        ·go_simp; (try with_reducible rfl)
        simp only [Act.put,List.setIfInBounds_toArray,List.set_cons_zero,List.set_cons_succ]
        refine tkH (v:=?_) 28 (some 50) rfl rfl (by kernel_rfl) (by kernel_rfl) (fun _ _ _ h => h) (fun W' hSW => ?_) hS ?_
        rotate_left
        ·go_simp; (try with_reducible rfl)
        simp only [Act.put,List.setIfInBounds_toArray,List.set_cons_zero,List.set_cons_succ]
        refine wpAnyH_done (by kernel_rfl) ?_ _
        have HS2:=Aside0.mk (HB2.out.drew.trans (hS.mono HB2.out.drew.size))
        have hX2:=blk_below (blk_drew HXB.out) hS
        obtain ⟨k0,k1,k2,k3⟩:=cells4 hX2
        have hS2 : Below wr2.heap.size wr2 W2:=(below_drew (Below.refl _ _)).trans hS
        clear hS hRt
        cases hl1 : linesB x.f2 with
        | false =>
         rw [hl1] at hLn
         replace hLn:=Aside0.mk hLn
         have hno : Aside0 (T = false):=HNO.out (by unfold stepR thingB; rw [hl1]; simp)
         go_wp2_with (go_at_call 70; refine (hLn.out _ hS2).mono ?_; rintro e w5 ⟨rfl,hb5⟩; have hX5:=blk_below hX2 hb5; obtain ⟨j0,j1,j2,j3⟩:=cells4 hX5; clear k0 k1 k2 k3; have HB5:=Aside0.mk (HS2.out.trans (hb5.mono HS2.out.size)); replace hX5:=Aside0.mk hX5; clear hb5)
         go_ret
         exact ⟨by rw [hno.out]; rfl,HB5.out⟩
        | true =>
         rw [hl1] at hLn
         replace hLn:=Aside0.mk hLn
         have hkc : x.f1 = 1 ∨ x.f1 = 2 ∨ x.f1 = 3:=by omega
         have hthd : thingB x = ((decide (x.f1 = 2) || decide (x.f2.length = 0)) && (decide (x.f1 = 3) || decide (x.f3.toList = []))):=by unfold thingB; rw [HC1.out,hl1,decide_eq_true hka,decide_eq_true hkb]; simp
         have HL1:=Aside0.mk hl1
         have hnn : (0 : Int) ≤ (x.f2.length : Int):=by omega
         clear hl1 hka hkb hka2 hkb2
         rcases hkc with hk | hk | hk
         ·have n2 : (x.f1 != 2) = true:=by rw [hk]; rfl
          have n3 : (x.f1 != 3) = true:=by rw [hk]; rfl
          have hthd2:=hthd
          rw [hk] at hthd2
          replace hk:=Aside0.mk hk
          clear hthd
          by_cases hz : x.f2.length = 0
          ·have hg : decide ((x.f2.length : Int) > 0) = false:=decide_eq_false (by omega)
           have hg' : decide ((0 : Int) < (x.f2.length : Int)) = false:=decide_eq_false (by omega)
           have hg3:=Aside0.mk hz
           have hg4 : (0 < x.f2.length) = False:=eq_false (by omega)
           have hg5 : (x.f2 = []) = True:=eq_true (List.eq_nil_of_length_eq_zero hz)
           have hg6 : decide (0 < x.f2.length) = false:=decide_eq_false (by omega)
           have hz' : decide (x.f2.length = 0) = true:=decide_eq_true hz
           rw [hz'] at hthd2
           clear hz hz'
           cases hd : (x.f3.toList == ([] : List UInt8)) with
           | false =>
            have hd2 : (x.f3.toList != ([] : List UInt8)) = true:=by rw [bne,hd]; rfl
            have hd3 : x.f3.toList.isEmpty = false:=by cases h : x.f3.toList with | nil => rw [h] at hd; cases hd | cons a b => rfl
            have hno : Aside0 (T = false):=HNO.out (by have e : decide (x.f3.toList = []) = false:=(by rw [decide_eq_false_iff_not]; intro k; rw [k] at hd; cases hd); unfold stepR; rw [hthd2,e]; simp)
            replace hd:=Aside0.mk hd
            clear hthd2
            go_wp2_with (go_at_call 70; refine (hLn.out _ hS2).mono ?_; rintro e w5 ⟨rfl,hb5⟩; have hX5:=blk_below hX2 hb5; obtain ⟨j0,j1,j2,j3⟩:=cells4 hX5; clear k0 k1 k2 k3; have HB5:=Aside0.mk (HS2.out.trans (hb5.mono HS2.out.size)); replace hX5:=Aside0.mk hX5; clear hb5)
            go_ret
            exact ⟨by rw [hno.out]; rfl,HB5.out⟩
           | true =>
            have hd2 : (x.f3.toList != ([] : List UInt8)) = false:=by rw [bne,hd]; rfl
            have hd3 : x.f3.toList.isEmpty = true:=by cases h : x.f3.toList with | nil => rfl | cons a b => rw [h] at hd; cases hd
            have hth : thingB x = true:=by have e : decide (x.f3.toList = []) = true:=decide_eq_true (by simpa using hd); rw [hthd2,e]; simp
            replace hd:=Aside0.mk hd
            clear hthd2
            cases hup : parentV x.f0 with
            | none =>
             rw [hup] at hPa
             have hyes : Aside0 (stepR l i x = true):=⟨by unfold stepR parR; rw [HTH.out hth,HRI.out,hup]; rfl⟩
             replace hPa:=Aside0.mk hPa
             replace hup:=Aside0.mk hup
             clear hth
             go_wp2_with (first | (go_at_call 70; refine (hLn.out _ hS2).mono ?_; rintro e w5 ⟨rfl,hb5⟩; have hX5:=blk_below hX2 hb5; obtain ⟨j0,j1,j2,j3⟩:=cells4 hX5; clear k0 k1 k2 k3; have HB5:=Aside0.mk (HS2.out.trans (hb5.mono HS2.out.size)); replace hX5:=Aside0.mk hX5; clear hb5) | (go_at_call 35; refine (hPa.out _).mono ?_; rintro e w6 ⟨rfl,hb6⟩; have HB6:=Aside0.mk (HB5.out.trans (hb6.mono HB5.out.size)); clear j0 j1 j2 j3 hb6))
             go_roundg (l.length - (i + 1))
             case measure => omega
             case rel => exact ⟨i + 1,by first | rfl | (rw [hwi]),by omega,HB6,HNX.out hyes.out⟩
            | some up =>
             rw [hup] at hPa
             have hFd:=fun U h => find_at l (some ad) c up w HR.out HC.out HN.out U h
             obtain ⟨y,hy⟩ : ∃ y,thingAt l up = y:=⟨_,rfl⟩
             obtain ⟨fd,hfd⟩ : ∃ fd,(findV l up).isSome = fd:=⟨_,rfl⟩
             rw [hy,hfd] at hFd
             have hst : Aside0 (stepR l i x = (fd && (y.f1 == 1))):=⟨by unfold stepR parR; rw [HTH.out hth,HRI.out,hup]; show (true && true && ((findV l up).isSome && (thingAt l up).f1 == 1)) = _; rw [hy,hfd]; rfl⟩
             replace hPa:=Aside0.mk hPa
             replace hFd:=Aside0.mk hFd
             replace hup:=Aside0.mk hup
             clear hy hfd hth
             cases fd with
             | false =>
              have hno : Aside0 (T = false):=HNO.out (by rw [hst.out]; rfl)
              go_wp2_with (first | (go_at_call 70; refine (hLn.out _ hS2).mono ?_; rintro e w5 ⟨rfl,hb5⟩; have hX5:=blk_below hX2 hb5; obtain ⟨j0,j1,j2,j3⟩:=cells4 hX5; clear k0 k1 k2 k3; have HB5:=Aside0.mk (HS2.out.trans (hb5.mono HS2.out.size)); replace hX5:=Aside0.mk hX5; clear hb5) | (go_at_call 35; refine (hPa.out _).mono ?_; rintro e w6 ⟨rfl,hb6⟩; have HB6:=Aside0.mk (HB5.out.trans (hb6.mono HB5.out.size)); clear j0 j1 j2 j3 hb6) | (go_at_call 33; refine (hFd.out _ HB6.out).mono ?_; rintro e w7 ⟨X7,d7,rfl,hd7,hC7,hb7⟩; have HB7:=Aside0.mk (HB6.out.trans (hb7.mono HB6.out.size)); have HB8 : Aside0 (Below w.heap.size w (w7.alloc (.cells #[.string y.f0,.int .i64 y.f1,.slice X7 y.f2.length d7,.string y.f3] 41))):=⟨below_alloc HB7.out _⟩; obtain ⟨m0,m1,m2,m3⟩:=cells4 (blk_new w7 (.cells #[.string y.f0,.int .i64 y.f1,.slice X7 y.f2.length d7,.string y.f3] 41)); clear hd7 hC7 hb7))
              go_ret
              exact ⟨by rw [hno.out]; rfl,HB8.out⟩
             | true =>
              cases hk1 : (y.f1 == 1) with
              | false =>
               have hk2 : (y.f1 != 1) = true:=by rw [bne,hk1]; rfl
               have hno : Aside0 (T = false):=HNO.out (by rw [hst.out,hk1]; rfl)
               replace hk1:=Aside0.mk hk1
               go_wp2_with (first | (go_at_call 70; refine (hLn.out _ hS2).mono ?_; rintro e w5 ⟨rfl,hb5⟩; have hX5:=blk_below hX2 hb5; obtain ⟨j0,j1,j2,j3⟩:=cells4 hX5; clear k0 k1 k2 k3; have HB5:=Aside0.mk (HS2.out.trans (hb5.mono HS2.out.size)); replace hX5:=Aside0.mk hX5; clear hb5) | (go_at_call 35; refine (hPa.out _).mono ?_; rintro e w6 ⟨rfl,hb6⟩; have HB6:=Aside0.mk (HB5.out.trans (hb6.mono HB5.out.size)); clear j0 j1 j2 j3 hb6) | (go_at_call 33; refine (hFd.out _ HB6.out).mono ?_; rintro e w7 ⟨X7,d7,rfl,hd7,hC7,hb7⟩; have HB7:=Aside0.mk (HB6.out.trans (hb7.mono HB6.out.size)); have HB8 : Aside0 (Below w.heap.size w (w7.alloc (.cells #[.string y.f0,.int .i64 y.f1,.slice X7 y.f2.length d7,.string y.f3] 41))):=⟨below_alloc HB7.out _⟩; obtain ⟨m0,m1,m2,m3⟩:=cells4 (blk_new w7 (.cells #[.string y.f0,.int .i64 y.f1,.slice X7 y.f2.length d7,.string y.f3] 41)); clear hd7 hC7 hb7))
               go_ret
               exact ⟨by rw [hno.out]; rfl,HB8.out⟩
              | true =>
               have hk2 : (y.f1 != 1) = false:=by rw [bne,hk1]; rfl
               have hyes : Aside0 (stepR l i x = true):=⟨by rw [hst.out,hk1]; rfl⟩
               replace hk1:=Aside0.mk hk1
               go_wp2_with (first | (go_at_call 70; refine (hLn.out _ hS2).mono ?_; rintro e w5 ⟨rfl,hb5⟩; have hX5:=blk_below hX2 hb5; obtain ⟨j0,j1,j2,j3⟩:=cells4 hX5; clear k0 k1 k2 k3; have HB5:=Aside0.mk (HS2.out.trans (hb5.mono HS2.out.size)); replace hX5:=Aside0.mk hX5; clear hb5) | (go_at_call 35; refine (hPa.out _).mono ?_; rintro e w6 ⟨rfl,hb6⟩; have HB6:=Aside0.mk (HB5.out.trans (hb6.mono HB5.out.size)); clear j0 j1 j2 j3 hb6) | (go_at_call 33; refine (hFd.out _ HB6.out).mono ?_; rintro e w7 ⟨X7,d7,rfl,hd7,hC7,hb7⟩; have HB7:=Aside0.mk (HB6.out.trans (hb7.mono HB6.out.size)); have HB8 : Aside0 (Below w.heap.size w (w7.alloc (.cells #[.string y.f0,.int .i64 y.f1,.slice X7 y.f2.length d7,.string y.f3] 41))):=⟨below_alloc HB7.out _⟩; obtain ⟨m0,m1,m2,m3⟩:=cells4 (blk_new w7 (.cells #[.string y.f0,.int .i64 y.f1,.slice X7 y.f2.length d7,.string y.f3] 41)); clear hd7 hC7 hb7))
               go_roundg (l.length - (i + 1))
               case measure => omega
               case rel => exact ⟨i + 1,by first | rfl | (rw [hwi]),by omega,HB8,HNX.out hyes.out⟩
          ·have hg : decide ((x.f2.length : Int) > 0) = true:=decide_eq_true (by omega)
           have hg' : decide ((0 : Int) < (x.f2.length : Int)) = true:=decide_eq_true (by omega)
           have hg3:=Aside0.mk hz
           have hg4 : (0 < x.f2.length) = True:=eq_true (by omega)
           have hg5 : (x.f2 = []) = False:=eq_false (fun k => hz (by rw [k]; rfl))
           have hg6 : decide (0 < x.f2.length) = true:=decide_eq_true (by omega)
           have hz' : decide (x.f2.length = 0) = false:=decide_eq_false hz
           rw [hz'] at hthd2
           clear hz
           have hno : Aside0 (T = false):=HNO.out (by unfold stepR; rw [hthd2]; simp)
           clear hthd2
           go_wp2_with (go_at_call 70; refine (hLn.out _ hS2).mono ?_; rintro e w5 ⟨rfl,hb5⟩; have hX5:=blk_below hX2 hb5; obtain ⟨j0,j1,j2,j3⟩:=cells4 hX5; clear k0 k1 k2 k3; have HB5:=Aside0.mk (HS2.out.trans (hb5.mono HS2.out.size)); replace hX5:=Aside0.mk hX5; clear hb5)
           go_ret
           exact ⟨by rw [hno.out]; rfl,HB5.out⟩
         ·have n2 : (x.f1 != 2) = false:=by rw [hk]; rfl
          have n3 : (x.f1 != 3) = true:=by rw [hk]; rfl
          have hthd2:=hthd
          rw [hk] at hthd2
          replace hk:=Aside0.mk hk
          clear hthd
          cases hd : (x.f3.toList == ([] : List UInt8)) with
          | false =>
           have hd2 : (x.f3.toList != ([] : List UInt8)) = true:=by rw [bne,hd]; rfl
           have hd3 : x.f3.toList.isEmpty = false:=by cases h : x.f3.toList with | nil => rw [h] at hd; cases hd | cons a b => rfl
           have hno : Aside0 (T = false):=HNO.out (by have e : decide (x.f3.toList = []) = false:=(by rw [decide_eq_false_iff_not]; intro k; rw [k] at hd; cases hd); unfold stepR; rw [hthd2,e]; simp)
           replace hd:=Aside0.mk hd
           clear hthd2
           go_wp2_with (go_at_call 70; refine (hLn.out _ hS2).mono ?_; rintro e w5 ⟨rfl,hb5⟩; have hX5:=blk_below hX2 hb5; obtain ⟨j0,j1,j2,j3⟩:=cells4 hX5; clear k0 k1 k2 k3; have HB5:=Aside0.mk (HS2.out.trans (hb5.mono HS2.out.size)); replace hX5:=Aside0.mk hX5; clear hb5)
           go_ret
           exact ⟨by rw [hno.out]; rfl,HB5.out⟩
          | true =>
           have hd2 : (x.f3.toList != ([] : List UInt8)) = false:=by rw [bne,hd]; rfl
           have hd3 : x.f3.toList.isEmpty = true:=by cases h : x.f3.toList with | nil => rfl | cons a b => rw [h] at hd; cases hd
           have hth : thingB x = true:=by have e : decide (x.f3.toList = []) = true:=decide_eq_true (by simpa using hd); rw [hthd2,e]; simp
           replace hd:=Aside0.mk hd
           clear hthd2
           cases hup : parentV x.f0 with
           | none =>
            rw [hup] at hPa
            have hyes : Aside0 (stepR l i x = true):=⟨by unfold stepR parR; rw [HTH.out hth,HRI.out,hup]; rfl⟩
            replace hPa:=Aside0.mk hPa
            replace hup:=Aside0.mk hup
            clear hth
            go_wp2_with (first | (go_at_call 70; refine (hLn.out _ hS2).mono ?_; rintro e w5 ⟨rfl,hb5⟩; have hX5:=blk_below hX2 hb5; obtain ⟨j0,j1,j2,j3⟩:=cells4 hX5; clear k0 k1 k2 k3; have HB5:=Aside0.mk (HS2.out.trans (hb5.mono HS2.out.size)); replace hX5:=Aside0.mk hX5; clear hb5) | (go_at_call 35; refine (hPa.out _).mono ?_; rintro e w6 ⟨rfl,hb6⟩; have HB6:=Aside0.mk (HB5.out.trans (hb6.mono HB5.out.size)); clear j0 j1 j2 j3 hb6))
            go_roundg (l.length - (i + 1))
            case measure => omega
            case rel => exact ⟨i + 1,by first | rfl | (rw [hwi]),by omega,HB6,HNX.out hyes.out⟩
           | some up =>
            rw [hup] at hPa
            have hFd:=fun U h => find_at l (some ad) c up w HR.out HC.out HN.out U h
            obtain ⟨y,hy⟩ : ∃ y,thingAt l up = y:=⟨_,rfl⟩
            obtain ⟨fd,hfd⟩ : ∃ fd,(findV l up).isSome = fd:=⟨_,rfl⟩
            rw [hy,hfd] at hFd
            have hst : Aside0 (stepR l i x = (fd && (y.f1 == 1))):=⟨by unfold stepR parR; rw [HTH.out hth,HRI.out,hup]; show (true && true && ((findV l up).isSome && (thingAt l up).f1 == 1)) = _; rw [hy,hfd]; rfl⟩
            replace hPa:=Aside0.mk hPa
            replace hFd:=Aside0.mk hFd
            replace hup:=Aside0.mk hup
            clear hy hfd hth
            cases fd with
            | false =>
             have hno : Aside0 (T = false):=HNO.out (by rw [hst.out]; rfl)
             go_wp2_with (first | (go_at_call 70; refine (hLn.out _ hS2).mono ?_; rintro e w5 ⟨rfl,hb5⟩; have hX5:=blk_below hX2 hb5; obtain ⟨j0,j1,j2,j3⟩:=cells4 hX5; clear k0 k1 k2 k3; have HB5:=Aside0.mk (HS2.out.trans (hb5.mono HS2.out.size)); replace hX5:=Aside0.mk hX5; clear hb5) | (go_at_call 35; refine (hPa.out _).mono ?_; rintro e w6 ⟨rfl,hb6⟩; have HB6:=Aside0.mk (HB5.out.trans (hb6.mono HB5.out.size)); clear j0 j1 j2 j3 hb6) | (go_at_call 33; refine (hFd.out _ HB6.out).mono ?_; rintro e w7 ⟨X7,d7,rfl,hd7,hC7,hb7⟩; have HB7:=Aside0.mk (HB6.out.trans (hb7.mono HB6.out.size)); have HB8 : Aside0 (Below w.heap.size w (w7.alloc (.cells #[.string y.f0,.int .i64 y.f1,.slice X7 y.f2.length d7,.string y.f3] 41))):=⟨below_alloc HB7.out _⟩; obtain ⟨m0,m1,m2,m3⟩:=cells4 (blk_new w7 (.cells #[.string y.f0,.int .i64 y.f1,.slice X7 y.f2.length d7,.string y.f3] 41)); clear hd7 hC7 hb7))
             go_ret
             exact ⟨by rw [hno.out]; rfl,HB8.out⟩
            | true =>
             cases hk1 : (y.f1 == 1) with
             | false =>
              have hk2 : (y.f1 != 1) = true:=by rw [bne,hk1]; rfl
              have hno : Aside0 (T = false):=HNO.out (by rw [hst.out,hk1]; rfl)
              replace hk1:=Aside0.mk hk1
              go_wp2_with (first | (go_at_call 70; refine (hLn.out _ hS2).mono ?_; rintro e w5 ⟨rfl,hb5⟩; have hX5:=blk_below hX2 hb5; obtain ⟨j0,j1,j2,j3⟩:=cells4 hX5; clear k0 k1 k2 k3; have HB5:=Aside0.mk (HS2.out.trans (hb5.mono HS2.out.size)); replace hX5:=Aside0.mk hX5; clear hb5) | (go_at_call 35; refine (hPa.out _).mono ?_; rintro e w6 ⟨rfl,hb6⟩; have HB6:=Aside0.mk (HB5.out.trans (hb6.mono HB5.out.size)); clear j0 j1 j2 j3 hb6) | (go_at_call 33; refine (hFd.out _ HB6.out).mono ?_; rintro e w7 ⟨X7,d7,rfl,hd7,hC7,hb7⟩; have HB7:=Aside0.mk (HB6.out.trans (hb7.mono HB6.out.size)); have HB8 : Aside0 (Below w.heap.size w (w7.alloc (.cells #[.string y.f0,.int .i64 y.f1,.slice X7 y.f2.length d7,.string y.f3] 41))):=⟨below_alloc HB7.out _⟩; obtain ⟨m0,m1,m2,m3⟩:=cells4 (blk_new w7 (.cells #[.string y.f0,.int .i64 y.f1,.slice X7 y.f2.length d7,.string y.f3] 41)); clear hd7 hC7 hb7))
              go_ret
              exact ⟨by rw [hno.out]; rfl,HB8.out⟩
             | true =>
              have hk2 : (y.f1 != 1) = false:=by rw [bne,hk1]; rfl
              have hyes : Aside0 (stepR l i x = true):=⟨by rw [hst.out,hk1]; rfl⟩
              replace hk1:=Aside0.mk hk1
              go_wp2_with (first | (go_at_call 70; refine (hLn.out _ hS2).mono ?_; rintro e w5 ⟨rfl,hb5⟩; have hX5:=blk_below hX2 hb5; obtain ⟨j0,j1,j2,j3⟩:=cells4 hX5; clear k0 k1 k2 k3; have HB5:=Aside0.mk (HS2.out.trans (hb5.mono HS2.out.size)); replace hX5:=Aside0.mk hX5; clear hb5) | (go_at_call 35; refine (hPa.out _).mono ?_; rintro e w6 ⟨rfl,hb6⟩; have HB6:=Aside0.mk (HB5.out.trans (hb6.mono HB5.out.size)); clear j0 j1 j2 j3 hb6) | (go_at_call 33; refine (hFd.out _ HB6.out).mono ?_; rintro e w7 ⟨X7,d7,rfl,hd7,hC7,hb7⟩; have HB7:=Aside0.mk (HB6.out.trans (hb7.mono HB6.out.size)); have HB8 : Aside0 (Below w.heap.size w (w7.alloc (.cells #[.string y.f0,.int .i64 y.f1,.slice X7 y.f2.length d7,.string y.f3] 41))):=⟨below_alloc HB7.out _⟩; obtain ⟨m0,m1,m2,m3⟩:=cells4 (blk_new w7 (.cells #[.string y.f0,.int .i64 y.f1,.slice X7 y.f2.length d7,.string y.f3] 41)); clear hd7 hC7 hb7))
              go_roundg (l.length - (i + 1))
              case measure => omega
              case rel => exact ⟨i + 1,by first | rfl | (rw [hwi]),by omega,HB8,HNX.out hyes.out⟩
         ·have n2 : (x.f1 != 2) = true:=by rw [hk]; rfl
          have n3 : (x.f1 != 3) = false:=by rw [hk]; rfl
          have hthd2:=hthd
          rw [hk] at hthd2
          replace hk:=Aside0.mk hk
          clear hthd
          by_cases hz : x.f2.length = 0
          ·have hg : decide ((x.f2.length : Int) > 0) = false:=decide_eq_false (by omega)
           have hg' : decide ((0 : Int) < (x.f2.length : Int)) = false:=decide_eq_false (by omega)
           have hg3:=Aside0.mk hz
           have hg4 : (0 < x.f2.length) = False:=eq_false (by omega)
           have hg5 : (x.f2 = []) = True:=eq_true (List.eq_nil_of_length_eq_zero hz)
           have hg6 : decide (0 < x.f2.length) = false:=decide_eq_false (by omega)
           have hz' : decide (x.f2.length = 0) = true:=decide_eq_true hz
           rw [hz'] at hthd2
           clear hz hz'
           have hth : thingB x = true:=by rw [hthd2]; simp
           clear hthd2
           cases hup : parentV x.f0 with
           | none =>
            rw [hup] at hPa
            have hyes : Aside0 (stepR l i x = true):=⟨by unfold stepR parR; rw [HTH.out hth,HRI.out,hup]; rfl⟩
            replace hPa:=Aside0.mk hPa
            replace hup:=Aside0.mk hup
            clear hth
            go_wp2_with (first | (go_at_call 70; refine (hLn.out _ hS2).mono ?_; rintro e w5 ⟨rfl,hb5⟩; have hX5:=blk_below hX2 hb5; obtain ⟨j0,j1,j2,j3⟩:=cells4 hX5; clear k0 k1 k2 k3; have HB5:=Aside0.mk (HS2.out.trans (hb5.mono HS2.out.size)); replace hX5:=Aside0.mk hX5; clear hb5) | (go_at_call 35; refine (hPa.out _).mono ?_; rintro e w6 ⟨rfl,hb6⟩; have HB6:=Aside0.mk (HB5.out.trans (hb6.mono HB5.out.size)); clear j0 j1 j2 j3 hb6))
            go_roundg (l.length - (i + 1))
            case measure => omega
            case rel => exact ⟨i + 1,by first | rfl | (rw [hwi]),by omega,HB6,HNX.out hyes.out⟩
           | some up =>
            rw [hup] at hPa
            have hFd:=fun U h => find_at l (some ad) c up w HR.out HC.out HN.out U h
            obtain ⟨y,hy⟩ : ∃ y,thingAt l up = y:=⟨_,rfl⟩
            obtain ⟨fd,hfd⟩ : ∃ fd,(findV l up).isSome = fd:=⟨_,rfl⟩
            rw [hy,hfd] at hFd
            have hst : Aside0 (stepR l i x = (fd && (y.f1 == 1))):=⟨by unfold stepR parR; rw [HTH.out hth,HRI.out,hup]; show (true && true && ((findV l up).isSome && (thingAt l up).f1 == 1)) = _; rw [hy,hfd]; rfl⟩
            replace hPa:=Aside0.mk hPa
            replace hFd:=Aside0.mk hFd
            replace hup:=Aside0.mk hup
            clear hy hfd hth
            cases fd with
            | false =>
             have hno : Aside0 (T = false):=HNO.out (by rw [hst.out]; rfl)
             go_wp2_with (first | (go_at_call 70; refine (hLn.out _ hS2).mono ?_; rintro e w5 ⟨rfl,hb5⟩; have hX5:=blk_below hX2 hb5; obtain ⟨j0,j1,j2,j3⟩:=cells4 hX5; clear k0 k1 k2 k3; have HB5:=Aside0.mk (HS2.out.trans (hb5.mono HS2.out.size)); replace hX5:=Aside0.mk hX5; clear hb5) | (go_at_call 35; refine (hPa.out _).mono ?_; rintro e w6 ⟨rfl,hb6⟩; have HB6:=Aside0.mk (HB5.out.trans (hb6.mono HB5.out.size)); clear j0 j1 j2 j3 hb6) | (go_at_call 33; refine (hFd.out _ HB6.out).mono ?_; rintro e w7 ⟨X7,d7,rfl,hd7,hC7,hb7⟩; have HB7:=Aside0.mk (HB6.out.trans (hb7.mono HB6.out.size)); have HB8 : Aside0 (Below w.heap.size w (w7.alloc (.cells #[.string y.f0,.int .i64 y.f1,.slice X7 y.f2.length d7,.string y.f3] 41))):=⟨below_alloc HB7.out _⟩; obtain ⟨m0,m1,m2,m3⟩:=cells4 (blk_new w7 (.cells #[.string y.f0,.int .i64 y.f1,.slice X7 y.f2.length d7,.string y.f3] 41)); clear hd7 hC7 hb7))
             go_ret
             exact ⟨by rw [hno.out]; rfl,HB8.out⟩
            | true =>
             cases hk1 : (y.f1 == 1) with
             | false =>
              have hk2 : (y.f1 != 1) = true:=by rw [bne,hk1]; rfl
              have hno : Aside0 (T = false):=HNO.out (by rw [hst.out,hk1]; rfl)
              replace hk1:=Aside0.mk hk1
              go_wp2_with (first | (go_at_call 70; refine (hLn.out _ hS2).mono ?_; rintro e w5 ⟨rfl,hb5⟩; have hX5:=blk_below hX2 hb5; obtain ⟨j0,j1,j2,j3⟩:=cells4 hX5; clear k0 k1 k2 k3; have HB5:=Aside0.mk (HS2.out.trans (hb5.mono HS2.out.size)); replace hX5:=Aside0.mk hX5; clear hb5) | (go_at_call 35; refine (hPa.out _).mono ?_; rintro e w6 ⟨rfl,hb6⟩; have HB6:=Aside0.mk (HB5.out.trans (hb6.mono HB5.out.size)); clear j0 j1 j2 j3 hb6) | (go_at_call 33; refine (hFd.out _ HB6.out).mono ?_; rintro e w7 ⟨X7,d7,rfl,hd7,hC7,hb7⟩; have HB7:=Aside0.mk (HB6.out.trans (hb7.mono HB6.out.size)); have HB8 : Aside0 (Below w.heap.size w (w7.alloc (.cells #[.string y.f0,.int .i64 y.f1,.slice X7 y.f2.length d7,.string y.f3] 41))):=⟨below_alloc HB7.out _⟩; obtain ⟨m0,m1,m2,m3⟩:=cells4 (blk_new w7 (.cells #[.string y.f0,.int .i64 y.f1,.slice X7 y.f2.length d7,.string y.f3] 41)); clear hd7 hC7 hb7))
              go_ret
              exact ⟨by rw [hno.out]; rfl,HB8.out⟩
             | true =>
              have hk2 : (y.f1 != 1) = false:=by rw [bne,hk1]; rfl
              have hyes : Aside0 (stepR l i x = true):=⟨by rw [hst.out,hk1]; rfl⟩
              replace hk1:=Aside0.mk hk1
              go_wp2_with (first | (go_at_call 70; refine (hLn.out _ hS2).mono ?_; rintro e w5 ⟨rfl,hb5⟩; have hX5:=blk_below hX2 hb5; obtain ⟨j0,j1,j2,j3⟩:=cells4 hX5; clear k0 k1 k2 k3; have HB5:=Aside0.mk (HS2.out.trans (hb5.mono HS2.out.size)); replace hX5:=Aside0.mk hX5; clear hb5) | (go_at_call 35; refine (hPa.out _).mono ?_; rintro e w6 ⟨rfl,hb6⟩; have HB6:=Aside0.mk (HB5.out.trans (hb6.mono HB5.out.size)); clear j0 j1 j2 j3 hb6) | (go_at_call 33; refine (hFd.out _ HB6.out).mono ?_; rintro e w7 ⟨X7,d7,rfl,hd7,hC7,hb7⟩; have HB7:=Aside0.mk (HB6.out.trans (hb7.mono HB6.out.size)); have HB8 : Aside0 (Below w.heap.size w (w7.alloc (.cells #[.string y.f0,.int .i64 y.f1,.slice X7 y.f2.length d7,.string y.f3] 41))):=⟨below_alloc HB7.out _⟩; obtain ⟨m0,m1,m2,m3⟩:=cells4 (blk_new w7 (.cells #[.string y.f0,.int .i64 y.f1,.slice X7 y.f2.length d7,.string y.f3] 41)); clear hd7 hC7 hb7))
              go_roundg (l.length - (i + 1))
              case measure => omega
              case rel => exact ⟨i + 1,by first | rfl | (rw [hwi]),by omega,HB8,HNX.out hyes.out⟩
          ·have hg : decide ((x.f2.length : Int) > 0) = true:=decide_eq_true (by omega)
           have hg' : decide ((0 : Int) < (x.f2.length : Int)) = true:=decide_eq_true (by omega)
           have hg3:=Aside0.mk hz
           have hg4 : (0 < x.f2.length) = True:=eq_true (by omega)
           have hg5 : (x.f2 = []) = False:=eq_false (fun k => hz (by rw [k]; rfl))
           have hg6 : decide (0 < x.f2.length) = true:=decide_eq_true (by omega)
           have hz' : decide (x.f2.length = 0) = false:=decide_eq_false hz
           rw [hz'] at hthd2
           clear hz
           have hno : Aside0 (T = false):=HNO.out (by unfold stepR; rw [hthd2]; simp)
           clear hthd2
           go_wp2_with (go_at_call 70; refine (hLn.out _ hS2).mono ?_; rintro e w5 ⟨rfl,hb5⟩; have hX5:=blk_below hX2 hb5; obtain ⟨j0,j1,j2,j3⟩:=cells4 hX5; clear k0 k1 k2 k3; have HB5:=Aside0.mk (HS2.out.trans (hb5.mono HS2.out.size)); replace hX5:=Aside0.mk hX5; clear hb5)
           go_ret
           exact ⟨by rw [hno.out]; rfl,HB5.out⟩
     ·have hgt : decide ((i : Int) > 0) = true:=decide_eq_true (by omega)
      have hgt2 : decide ((0 : Int) < (i : Int)) = true:=decide_eq_true (by omega)
      have hgt3 : (0 < i) = True:=eq_true hpos
      have hgt4 : decide (0 < i) = true:=decide_eq_true hpos
      have hwm : IntKind.i64.wrap ((i : Int) - 1) = (i : Int) - 1:=wrap64_same (by omega) (by omega)
      have hm0 : (0 : Int) ≤ (i : Int) - 1:=by omega
      have hm1 : (i : Int) - 1 < (l.length : Int):=by omega
      obtain ⟨ad',X',d',he',rx',pc,-,-,-⟩:=ent_at (Kd.C_below HR.out (B1.out.trans (HW2B.out.mono B1.out.size))) (i - 1) (by omega) rfl
      injection he' with he'
      subst he'
      obtain ⟨yy,hy⟩ : ∃ y,l.getD (i - 1) z41 = y:=⟨_,rfl⟩
      rw [hy] at rx' pc
      have pc:=Aside0.mk pc
      have h1i : (1 : Int) ≤ (i : Int):=by omega
      obtain ⟨lt,hlt2⟩ : ∃ lt,ltP yy.f0 x.f0 = lt:=⟨_,rfl⟩
      have hbl : Op.bytesLess yy.f0.toList x.f0.toList = lt:=hlt2
      have HRJ : Aside0 ((decide (i = 0) || ltP (l.getD (i - 1) z41).f0 x.f0) = lt):=⟨by rw [decide_eq_false (show ¬ i = 0 by omega),hy,hlt2]; rfl⟩
      clear hy rx' hpos hlt2
      cases lt with
      | false =>
       have hno : Aside0 (T = false):=HNO.out (by unfold stepR; rw [HRJ.out]; simp)
       clear hLn
       refine wp_region_held_drew (S:=Below wr2.drew.heap.size wr2.drew) (by kernel_rfl) (Below.refl _ _) (fun hS => ?_)
       refine tkH (v:=?_) 0 (some 22) rfl rfl (by kernel_rfl) (by kernel_rfl) (fun _ _ _ h => h) (fun W' hSW => ?_) hS ?_
       rotate_left
       ·go_simp; (try with_reducible rfl)
       simp only [Act.put,List.setIfInBounds_toArray,List.set_cons_zero,List.set_cons_succ]
       refine tkH (v:=?_) 1 (some 23) rfl rfl (by kernel_rfl) (by kernel_rfl) (fun _ _ _ h => h) (fun W' hSW => ?_) hS ?_
       rotate_left
       ·obtain ⟨k0,k1,k2,k3⟩:=cells4 (blk_below (blk_drew HXB.out) hSW); go_simp; (try with_reducible rfl)
       simp only [Act.put,List.setIfInBounds_toArray,List.set_cons_zero,List.set_cons_succ]
       refine wpAnyH_ready (rs:=[2]) (by kernel_rfl) (by simp) (AllReadyH.cons rfl (fun K hK => ?_) AllReadyH.nil)
       go_simp
       refine (hRt _).mono ?_
       rintro e W2 ⟨rfl,hb⟩
       have hS:=hS.trans (hb.mono hS.size)
       clear hb
       refine hK.out _ _ hS (fun _ => ?_)
       clear hK K
       refine tkH (v:=?_) 3 (some 25) rfl rfl (by kernel_rfl) (by kernel_rfl) (fun _ _ _ h => h) (fun W' hSW => ?_) hS ?_
       rotate_left
       ·go_simp; (try with_reducible rfl)
       simp only [Act.put,List.setIfInBounds_toArray,List.set_cons_zero,List.set_cons_succ]
       refine tkH (v:=?_) 4 (some 26) rfl rfl (by kernel_rfl) (by kernel_rfl) (fun _ _ _ h => h) (fun W' hSW => ?_) hS ?_
       rotate_left
       ·go_simp; (try with_reducible rfl)
       simp only [Act.put,List.setIfInBounds_toArray,List.set_cons_zero,List.set_cons_succ]
       refine tkH (v:=?_) 5 (some 27) rfl rfl (by kernel_rfl) (by kernel_rfl) (fun _ _ _ h => h) (fun W' hSW => ?_) hS ?_
       rotate_left
       ·go_simp; (try with_reducible rfl)
       simp only [Act.put,List.setIfInBounds_toArray,List.set_cons_zero,List.set_cons_succ]
       refine tkH (v:=?_) 6 (some 28) rfl rfl (by kernel_rfl) (by kernel_rfl) (fun _ _ _ h => h) (fun W' hSW => ?_) hS ?_
       rotate_left
       ·go_simp; (try with_reducible rfl)
       simp only [Act.put,List.setIfInBounds_toArray,List.set_cons_zero,List.set_cons_succ]
       refine tkH (v:=?_) 7 (some 29) rfl rfl (by kernel_rfl) (by kernel_rfl) (fun _ _ _ h => h) (fun W' hSW => ?_) hS ?_
       rotate_left
       ·go_simp; (try with_reducible rfl)
       simp only [Act.put,List.setIfInBounds_toArray,List.set_cons_zero,List.set_cons_succ]
       refine tkH (v:=?_) 8 (some 30) rfl rfl (by kernel_rfl) (by kernel_rfl) (fun _ _ _ h => h) (fun W' hSW => ?_) hS ?_
       rotate_left
       ·go_simp; (try with_reducible rfl)
       simp only [Act.put,List.setIfInBounds_toArray,List.set_cons_zero,List.set_cons_succ]
       refine tkH (v:=?_) 9 (some 31) rfl rfl (by kernel_rfl) (by kernel_rfl) (fun _ _ _ h => h) (fun W' hSW => ?_) hS ?_
       rotate_left
       ·go_simp; (try with_reducible rfl)
       simp only [Act.put,List.setIfInBounds_toArray,List.set_cons_zero,List.set_cons_succ]
       refine tkH (v:=?_) 10 (some 32) rfl rfl (by kernel_rfl) (by kernel_rfl) (fun _ _ _ h => h) (fun W' hSW => ?_) hS ?_
       rotate_left
       ·go_simp; (try with_reducible rfl)
       simp only [Act.put,List.setIfInBounds_toArray,List.set_cons_zero,List.set_cons_succ]
       refine tkH (v:=?_) 11 (some 33) rfl rfl (by kernel_rfl) (by kernel_rfl) (fun _ _ _ h => h) (fun W' hSW => ?_) hS ?_
       rotate_left
       ·go_simp; (try with_reducible rfl)
       simp only [Act.put,List.setIfInBounds_toArray,List.set_cons_zero,List.set_cons_succ]
       refine tkH (v:=?_) 12 (some 34) rfl rfl (by kernel_rfl) (by kernel_rfl) (fun _ _ _ h => h) (fun W' hSW => ?_) hS ?_
       rotate_left
       ·go_simp; (try with_reducible rfl)
       simp only [Act.put,List.setIfInBounds_toArray,List.set_cons_zero,List.set_cons_succ]
       refine tkH (v:=?_) 13 (some 35) rfl rfl (by kernel_rfl) (by kernel_rfl) (fun _ _ _ h => h) (fun W' hSW => ?_) hS ?_
       rotate_left
       ·have q0:=pw_cell_below hSW (pc.out); go_simp; (try with_reducible rfl)
       simp only [Act.put,List.setIfInBounds_toArray,List.set_cons_zero,List.set_cons_succ]
       refine tkH (v:=?_) 14 (some 36) rfl rfl (by kernel_rfl) (by kernel_rfl) (fun _ _ _ h => h) (fun W' hSW => ?_) hS ?_
       rotate_left
       ·go_simp; (try with_reducible rfl)
       simp only [Act.put,List.setIfInBounds_toArray,List.set_cons_zero,List.set_cons_succ]
       refine tkH (v:=?_) 15 (some 37) rfl rfl (by kernel_rfl) (by kernel_rfl) (fun _ _ _ h => h) (fun W' hSW => ?_) hS ?_
       rotate_left
       ·obtain ⟨k0,k1,k2,k3⟩:=cells4 (blk_below (blk_drew HXB.out) hSW); go_simp; (try with_reducible rfl)
       simp only [Act.put,List.setIfInBounds_toArray,List.set_cons_zero,List.set_cons_succ]
       refine tkH (v:=?_) 16 (some 38) rfl rfl (by kernel_rfl) (by kernel_rfl) (fun _ _ _ h => h) (fun W' hSW => ?_) hS ?_
       rotate_left
       ·go_simp; (try with_reducible rfl)
       simp only [Act.put,List.setIfInBounds_toArray,List.set_cons_zero,List.set_cons_succ]
       refine tkH (v:=?_) 17 (some 39) rfl rfl (by kernel_rfl) (by kernel_rfl) (fun _ _ _ h => h) (fun W' hSW => ?_) hS ?_
       rotate_left
       ·go_simp; (try with_reducible rfl)
       simp only [Act.put,List.setIfInBounds_toArray,List.set_cons_zero,List.set_cons_succ]
       refine tkH (v:=?_) 18 (some 40) rfl rfl (by kernel_rfl) (by kernel_rfl) (fun _ _ _ h => h) (fun W' hSW => ?_) hS ?_
       rotate_left
       ·go_simp; (try with_reducible rfl)
       simp only [Act.put,List.setIfInBounds_toArray,List.set_cons_zero,List.set_cons_succ]
       refine tkH (v:=?_) 19 (some 41) rfl rfl (by kernel_rfl) (by kernel_rfl) (fun _ _ _ h => h) (fun W' hSW => ?_) hS ?_
       rotate_left
       ·go_simp; (try with_reducible rfl)
       simp only [Act.put,List.setIfInBounds_toArray,List.set_cons_zero,List.set_cons_succ]
       refine tkUs (fun _ _ _ _ h => h) hS [(20,42),(21,43),(22,44)] 6 rfl (by kernel_rfl) ?_
       simp only [skipL,skipP,Act.put,List.setIfInBounds_toArray,List.set_cons_zero,List.set_cons_succ]
       refine tkH (v:=?_) 23 (some 45) rfl rfl (by kernel_rfl) (by kernel_rfl) (fun _ _ _ h => h) (fun W' hSW => ?_) hS ?_
       rotate_left
       ·go_simp; (try with_reducible rfl)
       simp only [Act.put,List.setIfInBounds_toArray,List.set_cons_zero,List.set_cons_succ]
       refine tkH (v:=?_) 24 (some 46) rfl rfl (by kernel_rfl) (by kernel_rfl) (fun _ _ _ h => h) (fun W' hSW => ?_) hS ?_
       rotate_left
       ·go_simp; (try with_reducible rfl)
       simp only [Act.put,List.setIfInBounds_toArray,List.set_cons_zero,List.set_cons_succ]
       refine tkUs (fun _ _ _ _ h => h) hS [(25,47),(26,48),(27,49)] 1 rfl (by kernel_rfl) ?_
       simp only [skipL,skipP,Act.put,List.setIfInBounds_toArray,List.set_cons_zero,List.set_cons_succ]
       refine tkH (v:=?_) 28 (some 50) rfl rfl (by kernel_rfl) (by kernel_rfl) (fun _ _ _ h => h) (fun W' hSW => ?_) hS ?_
       rotate_left
       ·go_simp; (try with_reducible rfl)
       simp only [Act.put,List.setIfInBounds_toArray,List.set_cons_zero,List.set_cons_succ]
       refine wpAnyH_done (by kernel_rfl) ?_ _
       go_wp2
       go_ret
       exact ⟨by rw [hno.out]; rfl,HB2.out.drew.trans (hS.mono HB2.out.drew.size)⟩
      | true =>
       have HRI:=HRJ
       by_cases hka : x.f1 < 1
       ·have hka2 : decide (x.f1 < 1) = true:=decide_eq_true hka
        have hno : Aside0 (T = false):=HNO.out (by unfold stepR thingB; rw [decide_eq_false (show ¬ (1 : Int) ≤ x.f1 by omega)]; simp)
        clear hka hLn
        refine wp_region_held_drew (S:=Below wr2.drew.heap.size wr2.drew) (by kernel_rfl) (Below.refl _ _) (fun hS => ?_)
        refine tkH (v:=?_) 0 (some 22) rfl rfl (by kernel_rfl) (by kernel_rfl) (fun _ _ _ h => h) (fun W' hSW => ?_) hS ?_
        rotate_left
        ·go_simp; (try with_reducible rfl)
        simp only [Act.put,List.setIfInBounds_toArray,List.set_cons_zero,List.set_cons_succ]
        refine tkH (v:=?_) 1 (some 23) rfl rfl (by kernel_rfl) (by kernel_rfl) (fun _ _ _ h => h) (fun W' hSW => ?_) hS ?_
        rotate_left
        ·obtain ⟨k0,k1,k2,k3⟩:=cells4 (blk_below (blk_drew HXB.out) hSW); go_simp; (try with_reducible rfl)
        simp only [Act.put,List.setIfInBounds_toArray,List.set_cons_zero,List.set_cons_succ]
        refine wpAnyH_ready (rs:=[2]) (by kernel_rfl) (by simp) (AllReadyH.cons rfl (fun K hK => ?_) AllReadyH.nil)
        go_simp
        refine (hRt _).mono ?_
        rintro e W2 ⟨rfl,hb⟩
        have hS:=hS.trans (hb.mono hS.size)
        clear hb
        refine hK.out _ _ hS (fun _ => ?_)
        clear hK K
        refine tkH (v:=?_) 3 (some 25) rfl rfl (by kernel_rfl) (by kernel_rfl) (fun _ _ _ h => h) (fun W' hSW => ?_) hS ?_
        rotate_left
        ·go_simp; (try with_reducible rfl)
        simp only [Act.put,List.setIfInBounds_toArray,List.set_cons_zero,List.set_cons_succ]
        refine tkH (v:=?_) 4 (some 26) rfl rfl (by kernel_rfl) (by kernel_rfl) (fun _ _ _ h => h) (fun W' hSW => ?_) hS ?_
        rotate_left
        ·go_simp; (try with_reducible rfl)
        simp only [Act.put,List.setIfInBounds_toArray,List.set_cons_zero,List.set_cons_succ]
        refine tkH (v:=?_) 5 (some 27) rfl rfl (by kernel_rfl) (by kernel_rfl) (fun _ _ _ h => h) (fun W' hSW => ?_) hS ?_
        rotate_left
        ·go_simp; (try with_reducible rfl)
        simp only [Act.put,List.setIfInBounds_toArray,List.set_cons_zero,List.set_cons_succ]
        refine tkH (v:=?_) 6 (some 28) rfl rfl (by kernel_rfl) (by kernel_rfl) (fun _ _ _ h => h) (fun W' hSW => ?_) hS ?_
        rotate_left
        ·go_simp; (try with_reducible rfl)
        simp only [Act.put,List.setIfInBounds_toArray,List.set_cons_zero,List.set_cons_succ]
        refine tkH (v:=?_) 7 (some 29) rfl rfl (by kernel_rfl) (by kernel_rfl) (fun _ _ _ h => h) (fun W' hSW => ?_) hS ?_
        rotate_left
        ·go_simp; (try with_reducible rfl)
        simp only [Act.put,List.setIfInBounds_toArray,List.set_cons_zero,List.set_cons_succ]
        refine tkH (v:=?_) 8 (some 30) rfl rfl (by kernel_rfl) (by kernel_rfl) (fun _ _ _ h => h) (fun W' hSW => ?_) hS ?_
        rotate_left
        ·go_simp; (try with_reducible rfl)
        simp only [Act.put,List.setIfInBounds_toArray,List.set_cons_zero,List.set_cons_succ]
        refine tkH (v:=?_) 9 (some 31) rfl rfl (by kernel_rfl) (by kernel_rfl) (fun _ _ _ h => h) (fun W' hSW => ?_) hS ?_
        rotate_left
        ·go_simp; (try with_reducible rfl)
        simp only [Act.put,List.setIfInBounds_toArray,List.set_cons_zero,List.set_cons_succ]
        refine tkH (v:=?_) 10 (some 32) rfl rfl (by kernel_rfl) (by kernel_rfl) (fun _ _ _ h => h) (fun W' hSW => ?_) hS ?_
        rotate_left
        ·go_simp; (try with_reducible rfl)
        simp only [Act.put,List.setIfInBounds_toArray,List.set_cons_zero,List.set_cons_succ]
        refine tkH (v:=?_) 11 (some 33) rfl rfl (by kernel_rfl) (by kernel_rfl) (fun _ _ _ h => h) (fun W' hSW => ?_) hS ?_
        rotate_left
        ·go_simp; (try with_reducible rfl)
        simp only [Act.put,List.setIfInBounds_toArray,List.set_cons_zero,List.set_cons_succ]
        refine tkH (v:=?_) 12 (some 34) rfl rfl (by kernel_rfl) (by kernel_rfl) (fun _ _ _ h => h) (fun W' hSW => ?_) hS ?_
        rotate_left
        ·go_simp; (try with_reducible rfl)
        simp only [Act.put,List.setIfInBounds_toArray,List.set_cons_zero,List.set_cons_succ]
        refine tkH (v:=?_) 13 (some 35) rfl rfl (by kernel_rfl) (by kernel_rfl) (fun _ _ _ h => h) (fun W' hSW => ?_) hS ?_
        rotate_left
        ·have q0:=pw_cell_below hSW (pc.out); go_simp; (try with_reducible rfl)
        simp only [Act.put,List.setIfInBounds_toArray,List.set_cons_zero,List.set_cons_succ]
        refine tkH (v:=?_) 14 (some 36) rfl rfl (by kernel_rfl) (by kernel_rfl) (fun _ _ _ h => h) (fun W' hSW => ?_) hS ?_
        rotate_left
        ·go_simp; (try with_reducible rfl)
        simp only [Act.put,List.setIfInBounds_toArray,List.set_cons_zero,List.set_cons_succ]
        refine tkH (v:=?_) 15 (some 37) rfl rfl (by kernel_rfl) (by kernel_rfl) (fun _ _ _ h => h) (fun W' hSW => ?_) hS ?_
        rotate_left
        ·obtain ⟨k0,k1,k2,k3⟩:=cells4 (blk_below (blk_drew HXB.out) hSW); go_simp; (try with_reducible rfl)
        simp only [Act.put,List.setIfInBounds_toArray,List.set_cons_zero,List.set_cons_succ]
        refine tkH (v:=?_) 16 (some 38) rfl rfl (by kernel_rfl) (by kernel_rfl) (fun _ _ _ h => h) (fun W' hSW => ?_) hS ?_
        rotate_left
        ·go_simp; (try with_reducible rfl)
        simp only [Act.put,List.setIfInBounds_toArray,List.set_cons_zero,List.set_cons_succ]
        refine tkH (v:=?_) 17 (some 39) rfl rfl (by kernel_rfl) (by kernel_rfl) (fun _ _ _ h => h) (fun W' hSW => ?_) hS ?_
        rotate_left
        ·go_simp; (try with_reducible rfl)
        simp only [Act.put,List.setIfInBounds_toArray,List.set_cons_zero,List.set_cons_succ]
        refine tkH (v:=?_) 18 (some 40) rfl rfl (by kernel_rfl) (by kernel_rfl) (fun _ _ _ h => h) (fun W' hSW => ?_) hS ?_
        rotate_left
        ·go_simp; (try with_reducible rfl)
        simp only [Act.put,List.setIfInBounds_toArray,List.set_cons_zero,List.set_cons_succ]
        refine tkH (v:=?_) 19 (some 41) rfl rfl (by kernel_rfl) (by kernel_rfl) (fun _ _ _ h => h) (fun W' hSW => ?_) hS ?_
        rotate_left
        ·go_simp; (try with_reducible rfl)
        simp only [Act.put,List.setIfInBounds_toArray,List.set_cons_zero,List.set_cons_succ]
        refine tkH (v:=?_) 20 (some 42) rfl rfl (by kernel_rfl) (by kernel_rfl) (fun _ _ _ h => h) (fun W' hSW => ?_) hS ?_
        rotate_left
        ·go_simp; (try with_reducible rfl)
        simp only [Act.put,List.setIfInBounds_toArray,List.set_cons_zero,List.set_cons_succ]
        refine tkH (v:=?_) 21 (some 43) rfl rfl (by kernel_rfl) (by kernel_rfl) (fun _ _ _ h => h) (fun W' hSW => ?_) hS ?_
        rotate_left
        ·obtain ⟨k0,k1,k2,k3⟩:=cells4 (blk_below (blk_drew HXB.out) hSW); go_simp; (try with_reducible rfl)
        simp only [Act.put,List.setIfInBounds_toArray,List.set_cons_zero,List.set_cons_succ]
        refine tkH (v:=?_) 22 (some 44) rfl rfl (by kernel_rfl) (by kernel_rfl) (fun _ _ _ h => h) (fun W' hSW => ?_) hS ?_
        rotate_left
        ·go_simp; (try with_reducible rfl)
        simp only [Act.put,List.setIfInBounds_toArray,List.set_cons_zero,List.set_cons_succ]
        refine tkH (v:=?_) 23 (some 45) rfl rfl (by kernel_rfl) (by kernel_rfl) (fun _ _ _ h => h) (fun W' hSW => ?_) hS ?_
        rotate_left
        ·go_simp; (try with_reducible rfl)
        simp only [Act.put,List.setIfInBounds_toArray,List.set_cons_zero,List.set_cons_succ]
        refine tkH (v:=?_) 24 (some 46) rfl rfl (by kernel_rfl) (by kernel_rfl) (fun _ _ _ h => h) (fun W' hSW => ?_) hS ?_
        rotate_left
        ·go_simp; (try with_reducible rfl)
        simp only [Act.put,List.setIfInBounds_toArray,List.set_cons_zero,List.set_cons_succ]
        refine tkUs (fun _ _ _ _ h => h) hS [(25,47),(26,48),(27,49)] 1 rfl (by kernel_rfl) ?_
        simp only [skipL,skipP,Act.put,List.setIfInBounds_toArray,List.set_cons_zero,List.set_cons_succ]
        refine tkH (v:=?_) 28 (some 50) rfl rfl (by kernel_rfl) (by kernel_rfl) (fun _ _ _ h => h) (fun W' hSW => ?_) hS ?_
        rotate_left
        ·go_simp; (try with_reducible rfl)
        simp only [Act.put,List.setIfInBounds_toArray,List.set_cons_zero,List.set_cons_succ]
        refine wpAnyH_done (by kernel_rfl) ?_ _
        go_wp2
        go_ret
        exact ⟨by rw [hno.out]; rfl,HB2.out.drew.trans (hS.mono HB2.out.drew.size)⟩
       ·have hka2 : decide (x.f1 < 1) = false:=decide_eq_false hka
        replace hka : (1 : Int) ≤ x.f1:=by omega
        by_cases hkb : x.f1 > 3
        ·have hkb2 : decide (x.f1 > 3) = true:=decide_eq_true hkb
         have hkb3 : decide ((3 : Int) < x.f1) = true:=decide_eq_true hkb
         have hno : Aside0 (T = false):=HNO.out (by unfold stepR thingB; rw [decide_eq_false (show ¬ x.f1 ≤ 3 by omega)]; simp)
         clear hka hkb hLn
         refine wp_region_held_drew (S:=Below wr2.drew.heap.size wr2.drew) (by kernel_rfl) (Below.refl _ _) (fun hS => ?_)
         refine tkH (v:=?_) 0 (some 22) rfl rfl (by kernel_rfl) (by kernel_rfl) (fun _ _ _ h => h) (fun W' hSW => ?_) hS ?_
         rotate_left
         ·go_simp; (try with_reducible rfl)
         simp only [Act.put,List.setIfInBounds_toArray,List.set_cons_zero,List.set_cons_succ]
         refine tkH (v:=?_) 1 (some 23) rfl rfl (by kernel_rfl) (by kernel_rfl) (fun _ _ _ h => h) (fun W' hSW => ?_) hS ?_
         rotate_left
         ·obtain ⟨k0,k1,k2,k3⟩:=cells4 (blk_below (blk_drew HXB.out) hSW); go_simp; (try with_reducible rfl)
         simp only [Act.put,List.setIfInBounds_toArray,List.set_cons_zero,List.set_cons_succ]
         refine wpAnyH_ready (rs:=[2]) (by kernel_rfl) (by simp) (AllReadyH.cons rfl (fun K hK => ?_) AllReadyH.nil)
         go_simp
         refine (hRt _).mono ?_
         rintro e W2 ⟨rfl,hb⟩
         have hS:=hS.trans (hb.mono hS.size)
         clear hb
         refine hK.out _ _ hS (fun _ => ?_)
         clear hK K
         refine tkH (v:=?_) 3 (some 25) rfl rfl (by kernel_rfl) (by kernel_rfl) (fun _ _ _ h => h) (fun W' hSW => ?_) hS ?_
         rotate_left
         ·go_simp; (try with_reducible rfl)
         simp only [Act.put,List.setIfInBounds_toArray,List.set_cons_zero,List.set_cons_succ]
         refine tkH (v:=?_) 4 (some 26) rfl rfl (by kernel_rfl) (by kernel_rfl) (fun _ _ _ h => h) (fun W' hSW => ?_) hS ?_
         rotate_left
         ·go_simp; (try with_reducible rfl)
         simp only [Act.put,List.setIfInBounds_toArray,List.set_cons_zero,List.set_cons_succ]
         refine tkH (v:=?_) 5 (some 27) rfl rfl (by kernel_rfl) (by kernel_rfl) (fun _ _ _ h => h) (fun W' hSW => ?_) hS ?_
         rotate_left
         ·go_simp; (try with_reducible rfl)
         simp only [Act.put,List.setIfInBounds_toArray,List.set_cons_zero,List.set_cons_succ]
         refine tkH (v:=?_) 6 (some 28) rfl rfl (by kernel_rfl) (by kernel_rfl) (fun _ _ _ h => h) (fun W' hSW => ?_) hS ?_
         rotate_left
         ·go_simp; (try with_reducible rfl)
         simp only [Act.put,List.setIfInBounds_toArray,List.set_cons_zero,List.set_cons_succ]
         refine tkH (v:=?_) 7 (some 29) rfl rfl (by kernel_rfl) (by kernel_rfl) (fun _ _ _ h => h) (fun W' hSW => ?_) hS ?_
         rotate_left
         ·go_simp; (try with_reducible rfl)
         simp only [Act.put,List.setIfInBounds_toArray,List.set_cons_zero,List.set_cons_succ]
         refine tkH (v:=?_) 8 (some 30) rfl rfl (by kernel_rfl) (by kernel_rfl) (fun _ _ _ h => h) (fun W' hSW => ?_) hS ?_
         rotate_left
         ·go_simp; (try with_reducible rfl)
         simp only [Act.put,List.setIfInBounds_toArray,List.set_cons_zero,List.set_cons_succ]
         refine tkH (v:=?_) 9 (some 31) rfl rfl (by kernel_rfl) (by kernel_rfl) (fun _ _ _ h => h) (fun W' hSW => ?_) hS ?_
         rotate_left
         ·go_simp; (try with_reducible rfl)
         simp only [Act.put,List.setIfInBounds_toArray,List.set_cons_zero,List.set_cons_succ]
         refine tkH (v:=?_) 10 (some 32) rfl rfl (by kernel_rfl) (by kernel_rfl) (fun _ _ _ h => h) (fun W' hSW => ?_) hS ?_
         rotate_left
         ·go_simp; (try with_reducible rfl)
         simp only [Act.put,List.setIfInBounds_toArray,List.set_cons_zero,List.set_cons_succ]
         refine tkH (v:=?_) 11 (some 33) rfl rfl (by kernel_rfl) (by kernel_rfl) (fun _ _ _ h => h) (fun W' hSW => ?_) hS ?_
         rotate_left
         ·go_simp; (try with_reducible rfl)
         simp only [Act.put,List.setIfInBounds_toArray,List.set_cons_zero,List.set_cons_succ]
         refine tkH (v:=?_) 12 (some 34) rfl rfl (by kernel_rfl) (by kernel_rfl) (fun _ _ _ h => h) (fun W' hSW => ?_) hS ?_
         rotate_left
         ·go_simp; (try with_reducible rfl)
         simp only [Act.put,List.setIfInBounds_toArray,List.set_cons_zero,List.set_cons_succ]
         refine tkH (v:=?_) 13 (some 35) rfl rfl (by kernel_rfl) (by kernel_rfl) (fun _ _ _ h => h) (fun W' hSW => ?_) hS ?_
         rotate_left
         ·have q0:=pw_cell_below hSW (pc.out); go_simp; (try with_reducible rfl)
         simp only [Act.put,List.setIfInBounds_toArray,List.set_cons_zero,List.set_cons_succ]
         refine tkH (v:=?_) 14 (some 36) rfl rfl (by kernel_rfl) (by kernel_rfl) (fun _ _ _ h => h) (fun W' hSW => ?_) hS ?_
         rotate_left
         ·go_simp; (try with_reducible rfl)
         simp only [Act.put,List.setIfInBounds_toArray,List.set_cons_zero,List.set_cons_succ]
         refine tkH (v:=?_) 15 (some 37) rfl rfl (by kernel_rfl) (by kernel_rfl) (fun _ _ _ h => h) (fun W' hSW => ?_) hS ?_
         rotate_left
         ·obtain ⟨k0,k1,k2,k3⟩:=cells4 (blk_below (blk_drew HXB.out) hSW); go_simp; (try with_reducible rfl)
         simp only [Act.put,List.setIfInBounds_toArray,List.set_cons_zero,List.set_cons_succ]
         refine tkH (v:=?_) 16 (some 38) rfl rfl (by kernel_rfl) (by kernel_rfl) (fun _ _ _ h => h) (fun W' hSW => ?_) hS ?_
         rotate_left
         ·go_simp; (try with_reducible rfl)
         simp only [Act.put,List.setIfInBounds_toArray,List.set_cons_zero,List.set_cons_succ]
         refine tkH (v:=?_) 17 (some 39) rfl rfl (by kernel_rfl) (by kernel_rfl) (fun _ _ _ h => h) (fun W' hSW => ?_) hS ?_
         rotate_left
         ·go_simp; (try with_reducible rfl)
         simp only [Act.put,List.setIfInBounds_toArray,List.set_cons_zero,List.set_cons_succ]
         refine tkH (v:=?_) 18 (some 40) rfl rfl (by kernel_rfl) (by kernel_rfl) (fun _ _ _ h => h) (fun W' hSW => ?_) hS ?_
         rotate_left
         ·go_simp; (try with_reducible rfl)
         simp only [Act.put,List.setIfInBounds_toArray,List.set_cons_zero,List.set_cons_succ]
         refine tkH (v:=?_) 19 (some 41) rfl rfl (by kernel_rfl) (by kernel_rfl) (fun _ _ _ h => h) (fun W' hSW => ?_) hS ?_
         rotate_left
         ·go_simp; (try with_reducible rfl)
         simp only [Act.put,List.setIfInBounds_toArray,List.set_cons_zero,List.set_cons_succ]
         refine tkH (v:=?_) 20 (some 42) rfl rfl (by kernel_rfl) (by kernel_rfl) (fun _ _ _ h => h) (fun W' hSW => ?_) hS ?_
         rotate_left
         ·go_simp; (try with_reducible rfl)
         simp only [Act.put,List.setIfInBounds_toArray,List.set_cons_zero,List.set_cons_succ]
         refine tkH (v:=?_) 21 (some 43) rfl rfl (by kernel_rfl) (by kernel_rfl) (fun _ _ _ h => h) (fun W' hSW => ?_) hS ?_
         rotate_left
         ·obtain ⟨k0,k1,k2,k3⟩:=cells4 (blk_below (blk_drew HXB.out) hSW); go_simp; (try with_reducible rfl)
         simp only [Act.put,List.setIfInBounds_toArray,List.set_cons_zero,List.set_cons_succ]
         refine tkH (v:=?_) 22 (some 44) rfl rfl (by kernel_rfl) (by kernel_rfl) (fun _ _ _ h => h) (fun W' hSW => ?_) hS ?_
         rotate_left
         ·go_simp; (try with_reducible rfl)
         simp only [Act.put,List.setIfInBounds_toArray,List.set_cons_zero,List.set_cons_succ]
         refine tkH (v:=?_) 23 (some 45) rfl rfl (by kernel_rfl) (by kernel_rfl) (fun _ _ _ h => h) (fun W' hSW => ?_) hS ?_
         rotate_left
         ·go_simp; (try with_reducible rfl)
         simp only [Act.put,List.setIfInBounds_toArray,List.set_cons_zero,List.set_cons_succ]
         refine tkH (v:=?_) 24 (some 46) rfl rfl (by kernel_rfl) (by kernel_rfl) (fun _ _ _ h => h) (fun W' hSW => ?_) hS ?_
         rotate_left
         ·go_simp; (try with_reducible rfl)
         simp only [Act.put,List.setIfInBounds_toArray,List.set_cons_zero,List.set_cons_succ]
         refine tkH (v:=?_) 25 (some 47) rfl rfl (by kernel_rfl) (by kernel_rfl) (fun _ _ _ h => h) (fun W' hSW => ?_) hS ?_
         rotate_left
         ·go_simp; (try with_reducible rfl)
         simp only [Act.put,List.setIfInBounds_toArray,List.set_cons_zero,List.set_cons_succ]
         refine tkH (v:=?_) 26 (some 48) rfl rfl (by kernel_rfl) (by kernel_rfl) (fun _ _ _ h => h) (fun W' hSW => ?_) hS ?_
         rotate_left
         ·obtain ⟨k0,k1,k2,k3⟩:=cells4 (blk_below (blk_drew HXB.out) hSW); go_simp; (try with_reducible rfl)
         simp only [Act.put,List.setIfInBounds_toArray,List.set_cons_zero,List.set_cons_succ]
         refine tkH (v:=?_) 27 (some 49) rfl rfl (by kernel_rfl) (by kernel_rfl) (fun _ _ _ h => h) (fun W' hSW => ?_) hS ?_
         rotate_left
         ·go_simp; (try with_reducible rfl)
         simp only [Act.put,List.setIfInBounds_toArray,List.set_cons_zero,List.set_cons_succ]
         refine tkH (v:=?_) 28 (some 50) rfl rfl (by kernel_rfl) (by kernel_rfl) (fun _ _ _ h => h) (fun W' hSW => ?_) hS ?_
         rotate_left
         ·go_simp; (try with_reducible rfl)
         simp only [Act.put,List.setIfInBounds_toArray,List.set_cons_zero,List.set_cons_succ]
         refine wpAnyH_done (by kernel_rfl) ?_ _
         go_wp2
         go_ret
         exact ⟨by rw [hno.out]; rfl,HB2.out.drew.trans (hS.mono HB2.out.drew.size)⟩
        ·have hkb2 : decide (x.f1 > 3) = false:=decide_eq_false hkb
         have hkb3 : decide ((3 : Int) < x.f1) = false:=decide_eq_false hkb
         replace hkb : x.f1 ≤ 3:=by omega
         refine wp_region_held_drew (S:=Below wr2.drew.heap.size wr2.drew) (by kernel_rfl) (Below.refl _ _) (fun hS => ?_)
         refine tkH (v:=?_) 0 (some 22) rfl rfl (by kernel_rfl) (by kernel_rfl) (fun _ _ _ h => h) (fun W' hSW => ?_) hS ?_
         rotate_left
         ·go_simp; (try with_reducible rfl)
         simp only [Act.put,List.setIfInBounds_toArray,List.set_cons_zero,List.set_cons_succ]
         refine tkH (v:=?_) 1 (some 23) rfl rfl (by kernel_rfl) (by kernel_rfl) (fun _ _ _ h => h) (fun W' hSW => ?_) hS ?_
         rotate_left
         ·obtain ⟨k0,k1,k2,k3⟩:=cells4 (blk_below (blk_drew HXB.out) hSW); go_simp; (try with_reducible rfl)
         simp only [Act.put,List.setIfInBounds_toArray,List.set_cons_zero,List.set_cons_succ]
         refine wpAnyH_ready (rs:=[2]) (by kernel_rfl) (by simp) (AllReadyH.cons rfl (fun K hK => ?_) AllReadyH.nil)
         go_simp
         refine (hRt _).mono ?_
         rintro e W2 ⟨rfl,hb⟩
         have hS:=hS.trans (hb.mono hS.size)
         clear hb
         refine hK.out _ _ hS (fun _ => ?_)
         clear hK K
         refine tkH (v:=?_) 3 (some 25) rfl rfl (by kernel_rfl) (by kernel_rfl) (fun _ _ _ h => h) (fun W' hSW => ?_) hS ?_
         rotate_left
         ·go_simp; (try with_reducible rfl)
         simp only [Act.put,List.setIfInBounds_toArray,List.set_cons_zero,List.set_cons_succ]
         refine tkH (v:=?_) 4 (some 26) rfl rfl (by kernel_rfl) (by kernel_rfl) (fun _ _ _ h => h) (fun W' hSW => ?_) hS ?_
         rotate_left
         ·go_simp; (try with_reducible rfl)
         simp only [Act.put,List.setIfInBounds_toArray,List.set_cons_zero,List.set_cons_succ]
         refine tkH (v:=?_) 5 (some 27) rfl rfl (by kernel_rfl) (by kernel_rfl) (fun _ _ _ h => h) (fun W' hSW => ?_) hS ?_
         rotate_left
         ·go_simp; (try with_reducible rfl)
         simp only [Act.put,List.setIfInBounds_toArray,List.set_cons_zero,List.set_cons_succ]
         refine tkH (v:=?_) 6 (some 28) rfl rfl (by kernel_rfl) (by kernel_rfl) (fun _ _ _ h => h) (fun W' hSW => ?_) hS ?_
         rotate_left
         ·go_simp; (try with_reducible rfl)
         simp only [Act.put,List.setIfInBounds_toArray,List.set_cons_zero,List.set_cons_succ]
         refine tkH (v:=?_) 7 (some 29) rfl rfl (by kernel_rfl) (by kernel_rfl) (fun _ _ _ h => h) (fun W' hSW => ?_) hS ?_
         rotate_left
         ·go_simp; (try with_reducible rfl)
         simp only [Act.put,List.setIfInBounds_toArray,List.set_cons_zero,List.set_cons_succ]
         refine tkH (v:=?_) 8 (some 30) rfl rfl (by kernel_rfl) (by kernel_rfl) (fun _ _ _ h => h) (fun W' hSW => ?_) hS ?_
         rotate_left
         ·go_simp; (try with_reducible rfl)
         simp only [Act.put,List.setIfInBounds_toArray,List.set_cons_zero,List.set_cons_succ]
         refine tkH (v:=?_) 9 (some 31) rfl rfl (by kernel_rfl) (by kernel_rfl) (fun _ _ _ h => h) (fun W' hSW => ?_) hS ?_
         rotate_left
         ·go_simp; (try with_reducible rfl)
         simp only [Act.put,List.setIfInBounds_toArray,List.set_cons_zero,List.set_cons_succ]
         refine tkH (v:=?_) 10 (some 32) rfl rfl (by kernel_rfl) (by kernel_rfl) (fun _ _ _ h => h) (fun W' hSW => ?_) hS ?_
         rotate_left
         ·go_simp; (try with_reducible rfl)
         simp only [Act.put,List.setIfInBounds_toArray,List.set_cons_zero,List.set_cons_succ]
         refine tkH (v:=?_) 11 (some 33) rfl rfl (by kernel_rfl) (by kernel_rfl) (fun _ _ _ h => h) (fun W' hSW => ?_) hS ?_
         rotate_left
         ·go_simp; (try with_reducible rfl)
         simp only [Act.put,List.setIfInBounds_toArray,List.set_cons_zero,List.set_cons_succ]
         refine tkH (v:=?_) 12 (some 34) rfl rfl (by kernel_rfl) (by kernel_rfl) (fun _ _ _ h => h) (fun W' hSW => ?_) hS ?_
         rotate_left
         ·go_simp; (try with_reducible rfl)
         simp only [Act.put,List.setIfInBounds_toArray,List.set_cons_zero,List.set_cons_succ]
         refine tkH (v:=?_) 13 (some 35) rfl rfl (by kernel_rfl) (by kernel_rfl) (fun _ _ _ h => h) (fun W' hSW => ?_) hS ?_
         rotate_left
         ·have q0:=pw_cell_below hSW (pc.out); go_simp; (try with_reducible rfl)
         simp only [Act.put,List.setIfInBounds_toArray,List.set_cons_zero,List.set_cons_succ]
         refine tkH (v:=?_) 14 (some 36) rfl rfl (by kernel_rfl) (by kernel_rfl) (fun _ _ _ h => h) (fun W' hSW => ?_) hS ?_
         rotate_left
         ·go_simp; (try with_reducible rfl)
         simp only [Act.put,List.setIfInBounds_toArray,List.set_cons_zero,List.set_cons_succ]
         refine tkH (v:=?_) 15 (some 37) rfl rfl (by kernel_rfl) (by kernel_rfl) (fun _ _ _ h => h) (fun W' hSW => ?_) hS ?_
         rotate_left
         ·obtain ⟨k0,k1,k2,k3⟩:=cells4 (blk_below (blk_drew HXB.out) hSW); go_simp; (try with_reducible rfl)
         simp only [Act.put,List.setIfInBounds_toArray,List.set_cons_zero,List.set_cons_succ]
         refine tkH (v:=?_) 16 (some 38) rfl rfl (by kernel_rfl) (by kernel_rfl) (fun _ _ _ h => h) (fun W' hSW => ?_) hS ?_
         rotate_left
         ·go_simp; (try with_reducible rfl)
         simp only [Act.put,List.setIfInBounds_toArray,List.set_cons_zero,List.set_cons_succ]
         refine tkH (v:=?_) 17 (some 39) rfl rfl (by kernel_rfl) (by kernel_rfl) (fun _ _ _ h => h) (fun W' hSW => ?_) hS ?_
         rotate_left
         ·go_simp; (try with_reducible rfl)
         simp only [Act.put,List.setIfInBounds_toArray,List.set_cons_zero,List.set_cons_succ]
         refine tkH (v:=?_) 18 (some 40) rfl rfl (by kernel_rfl) (by kernel_rfl) (fun _ _ _ h => h) (fun W' hSW => ?_) hS ?_
         rotate_left
         ·go_simp; (try with_reducible rfl)
         simp only [Act.put,List.setIfInBounds_toArray,List.set_cons_zero,List.set_cons_succ]
         refine tkH (v:=?_) 19 (some 41) rfl rfl (by kernel_rfl) (by kernel_rfl) (fun _ _ _ h => h) (fun W' hSW => ?_) hS ?_
         rotate_left
         ·go_simp; (try with_reducible rfl)
         simp only [Act.put,List.setIfInBounds_toArray,List.set_cons_zero,List.set_cons_succ]
         refine tkH (v:=?_) 20 (some 42) rfl rfl (by kernel_rfl) (by kernel_rfl) (fun _ _ _ h => h) (fun W' hSW => ?_) hS ?_
         rotate_left
         ·go_simp; (try with_reducible rfl)
         simp only [Act.put,List.setIfInBounds_toArray,List.set_cons_zero,List.set_cons_succ]
         refine tkH (v:=?_) 21 (some 43) rfl rfl (by kernel_rfl) (by kernel_rfl) (fun _ _ _ h => h) (fun W' hSW => ?_) hS ?_
         rotate_left
         ·obtain ⟨k0,k1,k2,k3⟩:=cells4 (blk_below (blk_drew HXB.out) hSW); go_simp; (try with_reducible rfl)
         simp only [Act.put,List.setIfInBounds_toArray,List.set_cons_zero,List.set_cons_succ]
         refine tkH (v:=?_) 22 (some 44) rfl rfl (by kernel_rfl) (by kernel_rfl) (fun _ _ _ h => h) (fun W' hSW => ?_) hS ?_
         rotate_left
         ·go_simp; (try with_reducible rfl)
         simp only [Act.put,List.setIfInBounds_toArray,List.set_cons_zero,List.set_cons_succ]
         refine tkH (v:=?_) 23 (some 45) rfl rfl (by kernel_rfl) (by kernel_rfl) (fun _ _ _ h => h) (fun W' hSW => ?_) hS ?_
         rotate_left
         ·go_simp; (try with_reducible rfl)
         simp only [Act.put,List.setIfInBounds_toArray,List.set_cons_zero,List.set_cons_succ]
         refine tkH (v:=?_) 24 (some 46) rfl rfl (by kernel_rfl) (by kernel_rfl) (fun _ _ _ h => h) (fun W' hSW => ?_) hS ?_
         rotate_left
         ·go_simp; (try with_reducible rfl)
         simp only [Act.put,List.setIfInBounds_toArray,List.set_cons_zero,List.set_cons_succ]
         refine tkH (v:=?_) 25 (some 47) rfl rfl (by kernel_rfl) (by kernel_rfl) (fun _ _ _ h => h) (fun W' hSW => ?_) hS ?_
         rotate_left
         ·go_simp; (try with_reducible rfl)
         simp only [Act.put,List.setIfInBounds_toArray,List.set_cons_zero,List.set_cons_succ]
         refine tkH (v:=?_) 26 (some 48) rfl rfl (by kernel_rfl) (by kernel_rfl) (fun _ _ _ h => h) (fun W' hSW => ?_) hS ?_
         rotate_left
         ·obtain ⟨k0,k1,k2,k3⟩:=cells4 (blk_below (blk_drew HXB.out) hSW); go_simp; (try with_reducible rfl)
         simp only [Act.put,List.setIfInBounds_toArray,List.set_cons_zero,List.set_cons_succ]
         refine tkH (v:=?_) 27 (some 49) rfl rfl (by kernel_rfl) (by kernel_rfl) (fun _ _ _ h => h) (fun W' hSW => ?_) hS ?_
         rotate_left
         ·go_simp; (try with_reducible rfl)
         simp only [Act.put,List.setIfInBounds_toArray,List.set_cons_zero,List.set_cons_succ]
         refine tkH (v:=?_) 28 (some 50) rfl rfl (by kernel_rfl) (by kernel_rfl) (fun _ _ _ h => h) (fun W' hSW => ?_) hS ?_
         rotate_left
         ·go_simp; (try with_reducible rfl)
         simp only [Act.put,List.setIfInBounds_toArray,List.set_cons_zero,List.set_cons_succ]
         refine wpAnyH_done (by kernel_rfl) ?_ _
         have HS2:=Aside0.mk (HB2.out.drew.trans (hS.mono HB2.out.drew.size))
         have hX2:=blk_below (blk_drew HXB.out) hS
         obtain ⟨k0,k1,k2,k3⟩:=cells4 hX2
         have hS2 : Below wr2.heap.size wr2 W2:=(below_drew (Below.refl _ _)).trans hS
         clear hS hRt
         cases hl1 : linesB x.f2 with
         | false =>
          rw [hl1] at hLn
          replace hLn:=Aside0.mk hLn
          have hno : Aside0 (T = false):=HNO.out (by unfold stepR thingB; rw [hl1]; simp)
          go_wp2_with (go_at_call 70; refine (hLn.out _ hS2).mono ?_; rintro e w5 ⟨rfl,hb5⟩; have hX5:=blk_below hX2 hb5; obtain ⟨j0,j1,j2,j3⟩:=cells4 hX5; clear k0 k1 k2 k3; have HB5:=Aside0.mk (HS2.out.trans (hb5.mono HS2.out.size)); replace hX5:=Aside0.mk hX5; clear hb5)
          go_ret
          exact ⟨by rw [hno.out]; rfl,HB5.out⟩
         | true =>
          rw [hl1] at hLn
          replace hLn:=Aside0.mk hLn
          have hkc : x.f1 = 1 ∨ x.f1 = 2 ∨ x.f1 = 3:=by omega
          have hthd : thingB x = ((decide (x.f1 = 2) || decide (x.f2.length = 0)) && (decide (x.f1 = 3) || decide (x.f3.toList = []))):=by unfold thingB; rw [HC1.out,hl1,decide_eq_true hka,decide_eq_true hkb]; simp
          have HL1:=Aside0.mk hl1
          have hnn : (0 : Int) ≤ (x.f2.length : Int):=by omega
          clear hl1 hka hkb hka2 hkb2
          rcases hkc with hk | hk | hk
          ·have n2 : (x.f1 != 2) = true:=by rw [hk]; rfl
           have n3 : (x.f1 != 3) = true:=by rw [hk]; rfl
           have hthd2:=hthd
           rw [hk] at hthd2
           replace hk:=Aside0.mk hk
           clear hthd
           by_cases hz : x.f2.length = 0
           ·have hg : decide ((x.f2.length : Int) > 0) = false:=decide_eq_false (by omega)
            have hg' : decide ((0 : Int) < (x.f2.length : Int)) = false:=decide_eq_false (by omega)
            have hg3:=Aside0.mk hz
            have hg4 : (0 < x.f2.length) = False:=eq_false (by omega)
            have hg5 : (x.f2 = []) = True:=eq_true (List.eq_nil_of_length_eq_zero hz)
            have hg6 : decide (0 < x.f2.length) = false:=decide_eq_false (by omega)
            have hz' : decide (x.f2.length = 0) = true:=decide_eq_true hz
            rw [hz'] at hthd2
            clear hz hz'
            cases hd : (x.f3.toList == ([] : List UInt8)) with
            | false =>
             have hd2 : (x.f3.toList != ([] : List UInt8)) = true:=by rw [bne,hd]; rfl
             have hd3 : x.f3.toList.isEmpty = false:=by cases h : x.f3.toList with | nil => rw [h] at hd; cases hd | cons a b => rfl
             have hno : Aside0 (T = false):=HNO.out (by have e : decide (x.f3.toList = []) = false:=(by rw [decide_eq_false_iff_not]; intro k; rw [k] at hd; cases hd); unfold stepR; rw [hthd2,e]; simp)
             replace hd:=Aside0.mk hd
             clear hthd2
             go_wp2_with (go_at_call 70; refine (hLn.out _ hS2).mono ?_; rintro e w5 ⟨rfl,hb5⟩; have hX5:=blk_below hX2 hb5; obtain ⟨j0,j1,j2,j3⟩:=cells4 hX5; clear k0 k1 k2 k3; have HB5:=Aside0.mk (HS2.out.trans (hb5.mono HS2.out.size)); replace hX5:=Aside0.mk hX5; clear hb5)
             go_ret
             exact ⟨by rw [hno.out]; rfl,HB5.out⟩
            | true =>
             have hd2 : (x.f3.toList != ([] : List UInt8)) = false:=by rw [bne,hd]; rfl
             have hd3 : x.f3.toList.isEmpty = true:=by cases h : x.f3.toList with | nil => rfl | cons a b => rw [h] at hd; cases hd
             have hth : thingB x = true:=by have e : decide (x.f3.toList = []) = true:=decide_eq_true (by simpa using hd); rw [hthd2,e]; simp
             replace hd:=Aside0.mk hd
             clear hthd2
             cases hup : parentV x.f0 with
             | none =>
              rw [hup] at hPa
              have hyes : Aside0 (stepR l i x = true):=⟨by unfold stepR parR; rw [HTH.out hth,HRI.out,hup]; rfl⟩
              replace hPa:=Aside0.mk hPa
              replace hup:=Aside0.mk hup
              clear hth
              go_wp2_with (first | (go_at_call 70; refine (hLn.out _ hS2).mono ?_; rintro e w5 ⟨rfl,hb5⟩; have hX5:=blk_below hX2 hb5; obtain ⟨j0,j1,j2,j3⟩:=cells4 hX5; clear k0 k1 k2 k3; have HB5:=Aside0.mk (HS2.out.trans (hb5.mono HS2.out.size)); replace hX5:=Aside0.mk hX5; clear hb5) | (go_at_call 35; refine (hPa.out _).mono ?_; rintro e w6 ⟨rfl,hb6⟩; have HB6:=Aside0.mk (HB5.out.trans (hb6.mono HB5.out.size)); clear j0 j1 j2 j3 hb6))
              go_roundg (l.length - (i + 1))
              case measure => omega
              case rel => exact ⟨i + 1,by first | rfl | (rw [hwi]),by omega,HB6,HNX.out hyes.out⟩
             | some up =>
              rw [hup] at hPa
              have hFd:=fun U h => find_at l (some ad) c up w HR.out HC.out HN.out U h
              obtain ⟨y,hy⟩ : ∃ y,thingAt l up = y:=⟨_,rfl⟩
              obtain ⟨fd,hfd⟩ : ∃ fd,(findV l up).isSome = fd:=⟨_,rfl⟩
              rw [hy,hfd] at hFd
              have hst : Aside0 (stepR l i x = (fd && (y.f1 == 1))):=⟨by unfold stepR parR; rw [HTH.out hth,HRI.out,hup]; show (true && true && ((findV l up).isSome && (thingAt l up).f1 == 1)) = _; rw [hy,hfd]; rfl⟩
              replace hPa:=Aside0.mk hPa
              replace hFd:=Aside0.mk hFd
              replace hup:=Aside0.mk hup
              clear hy hfd hth
              cases fd with
              | false =>
               have hno : Aside0 (T = false):=HNO.out (by rw [hst.out]; rfl)
               go_wp2_with (first | (go_at_call 70; refine (hLn.out _ hS2).mono ?_; rintro e w5 ⟨rfl,hb5⟩; have hX5:=blk_below hX2 hb5; obtain ⟨j0,j1,j2,j3⟩:=cells4 hX5; clear k0 k1 k2 k3; have HB5:=Aside0.mk (HS2.out.trans (hb5.mono HS2.out.size)); replace hX5:=Aside0.mk hX5; clear hb5) | (go_at_call 35; refine (hPa.out _).mono ?_; rintro e w6 ⟨rfl,hb6⟩; have HB6:=Aside0.mk (HB5.out.trans (hb6.mono HB5.out.size)); clear j0 j1 j2 j3 hb6) | (go_at_call 33; refine (hFd.out _ HB6.out).mono ?_; rintro e w7 ⟨X7,d7,rfl,hd7,hC7,hb7⟩; have HB7:=Aside0.mk (HB6.out.trans (hb7.mono HB6.out.size)); have HB8 : Aside0 (Below w.heap.size w (w7.alloc (.cells #[.string y.f0,.int .i64 y.f1,.slice X7 y.f2.length d7,.string y.f3] 41))):=⟨below_alloc HB7.out _⟩; obtain ⟨m0,m1,m2,m3⟩:=cells4 (blk_new w7 (.cells #[.string y.f0,.int .i64 y.f1,.slice X7 y.f2.length d7,.string y.f3] 41)); clear hd7 hC7 hb7))
               go_ret
               exact ⟨by rw [hno.out]; rfl,HB8.out⟩
              | true =>
               cases hk1 : (y.f1 == 1) with
               | false =>
                have hk2 : (y.f1 != 1) = true:=by rw [bne,hk1]; rfl
                have hno : Aside0 (T = false):=HNO.out (by rw [hst.out,hk1]; rfl)
                replace hk1:=Aside0.mk hk1
                go_wp2_with (first | (go_at_call 70; refine (hLn.out _ hS2).mono ?_; rintro e w5 ⟨rfl,hb5⟩; have hX5:=blk_below hX2 hb5; obtain ⟨j0,j1,j2,j3⟩:=cells4 hX5; clear k0 k1 k2 k3; have HB5:=Aside0.mk (HS2.out.trans (hb5.mono HS2.out.size)); replace hX5:=Aside0.mk hX5; clear hb5) | (go_at_call 35; refine (hPa.out _).mono ?_; rintro e w6 ⟨rfl,hb6⟩; have HB6:=Aside0.mk (HB5.out.trans (hb6.mono HB5.out.size)); clear j0 j1 j2 j3 hb6) | (go_at_call 33; refine (hFd.out _ HB6.out).mono ?_; rintro e w7 ⟨X7,d7,rfl,hd7,hC7,hb7⟩; have HB7:=Aside0.mk (HB6.out.trans (hb7.mono HB6.out.size)); have HB8 : Aside0 (Below w.heap.size w (w7.alloc (.cells #[.string y.f0,.int .i64 y.f1,.slice X7 y.f2.length d7,.string y.f3] 41))):=⟨below_alloc HB7.out _⟩; obtain ⟨m0,m1,m2,m3⟩:=cells4 (blk_new w7 (.cells #[.string y.f0,.int .i64 y.f1,.slice X7 y.f2.length d7,.string y.f3] 41)); clear hd7 hC7 hb7))
                go_ret
                exact ⟨by rw [hno.out]; rfl,HB8.out⟩
               | true =>
                have hk2 : (y.f1 != 1) = false:=by rw [bne,hk1]; rfl
                have hyes : Aside0 (stepR l i x = true):=⟨by rw [hst.out,hk1]; rfl⟩
                replace hk1:=Aside0.mk hk1
                go_wp2_with (first | (go_at_call 70; refine (hLn.out _ hS2).mono ?_; rintro e w5 ⟨rfl,hb5⟩; have hX5:=blk_below hX2 hb5; obtain ⟨j0,j1,j2,j3⟩:=cells4 hX5; clear k0 k1 k2 k3; have HB5:=Aside0.mk (HS2.out.trans (hb5.mono HS2.out.size)); replace hX5:=Aside0.mk hX5; clear hb5) | (go_at_call 35; refine (hPa.out _).mono ?_; rintro e w6 ⟨rfl,hb6⟩; have HB6:=Aside0.mk (HB5.out.trans (hb6.mono HB5.out.size)); clear j0 j1 j2 j3 hb6) | (go_at_call 33; refine (hFd.out _ HB6.out).mono ?_; rintro e w7 ⟨X7,d7,rfl,hd7,hC7,hb7⟩; have HB7:=Aside0.mk (HB6.out.trans (hb7.mono HB6.out.size)); have HB8 : Aside0 (Below w.heap.size w (w7.alloc (.cells #[.string y.f0,.int .i64 y.f1,.slice X7 y.f2.length d7,.string y.f3] 41))):=⟨below_alloc HB7.out _⟩; obtain ⟨m0,m1,m2,m3⟩:=cells4 (blk_new w7 (.cells #[.string y.f0,.int .i64 y.f1,.slice X7 y.f2.length d7,.string y.f3] 41)); clear hd7 hC7 hb7))
                go_roundg (l.length - (i + 1))
                case measure => omega
                case rel => exact ⟨i + 1,by first | rfl | (rw [hwi]),by omega,HB8,HNX.out hyes.out⟩
           ·have hg : decide ((x.f2.length : Int) > 0) = true:=decide_eq_true (by omega)
            have hg' : decide ((0 : Int) < (x.f2.length : Int)) = true:=decide_eq_true (by omega)
            have hg3:=Aside0.mk hz
            have hg4 : (0 < x.f2.length) = True:=eq_true (by omega)
            have hg5 : (x.f2 = []) = False:=eq_false (fun k => hz (by rw [k]; rfl))
            have hg6 : decide (0 < x.f2.length) = true:=decide_eq_true (by omega)
            have hz' : decide (x.f2.length = 0) = false:=decide_eq_false hz
            rw [hz'] at hthd2
            clear hz
            have hno : Aside0 (T = false):=HNO.out (by unfold stepR; rw [hthd2]; simp)
            clear hthd2
            go_wp2_with (go_at_call 70; refine (hLn.out _ hS2).mono ?_; rintro e w5 ⟨rfl,hb5⟩; have hX5:=blk_below hX2 hb5; obtain ⟨j0,j1,j2,j3⟩:=cells4 hX5; clear k0 k1 k2 k3; have HB5:=Aside0.mk (HS2.out.trans (hb5.mono HS2.out.size)); replace hX5:=Aside0.mk hX5; clear hb5)
            go_ret
            exact ⟨by rw [hno.out]; rfl,HB5.out⟩
          ·have n2 : (x.f1 != 2) = false:=by rw [hk]; rfl
           have n3 : (x.f1 != 3) = true:=by rw [hk]; rfl
           have hthd2:=hthd
           rw [hk] at hthd2
           replace hk:=Aside0.mk hk
           clear hthd
           cases hd : (x.f3.toList == ([] : List UInt8)) with
           | false =>
            have hd2 : (x.f3.toList != ([] : List UInt8)) = true:=by rw [bne,hd]; rfl
            have hd3 : x.f3.toList.isEmpty = false:=by cases h : x.f3.toList with | nil => rw [h] at hd; cases hd | cons a b => rfl
            have hno : Aside0 (T = false):=HNO.out (by have e : decide (x.f3.toList = []) = false:=(by rw [decide_eq_false_iff_not]; intro k; rw [k] at hd; cases hd); unfold stepR; rw [hthd2,e]; simp)
            replace hd:=Aside0.mk hd
            clear hthd2
            go_wp2_with (go_at_call 70; refine (hLn.out _ hS2).mono ?_; rintro e w5 ⟨rfl,hb5⟩; have hX5:=blk_below hX2 hb5; obtain ⟨j0,j1,j2,j3⟩:=cells4 hX5; clear k0 k1 k2 k3; have HB5:=Aside0.mk (HS2.out.trans (hb5.mono HS2.out.size)); replace hX5:=Aside0.mk hX5; clear hb5)
            go_ret
            exact ⟨by rw [hno.out]; rfl,HB5.out⟩
           | true =>
            have hd2 : (x.f3.toList != ([] : List UInt8)) = false:=by rw [bne,hd]; rfl
            have hd3 : x.f3.toList.isEmpty = true:=by cases h : x.f3.toList with | nil => rfl | cons a b => rw [h] at hd; cases hd
            have hth : thingB x = true:=by have e : decide (x.f3.toList = []) = true:=decide_eq_true (by simpa using hd); rw [hthd2,e]; simp
            replace hd:=Aside0.mk hd
            clear hthd2
            cases hup : parentV x.f0 with
            | none =>
             rw [hup] at hPa
             have hyes : Aside0 (stepR l i x = true):=⟨by unfold stepR parR; rw [HTH.out hth,HRI.out,hup]; rfl⟩
             replace hPa:=Aside0.mk hPa
             replace hup:=Aside0.mk hup
             clear hth
             go_wp2_with (first | (go_at_call 70; refine (hLn.out _ hS2).mono ?_; rintro e w5 ⟨rfl,hb5⟩; have hX5:=blk_below hX2 hb5; obtain ⟨j0,j1,j2,j3⟩:=cells4 hX5; clear k0 k1 k2 k3; have HB5:=Aside0.mk (HS2.out.trans (hb5.mono HS2.out.size)); replace hX5:=Aside0.mk hX5; clear hb5) | (go_at_call 35; refine (hPa.out _).mono ?_; rintro e w6 ⟨rfl,hb6⟩; have HB6:=Aside0.mk (HB5.out.trans (hb6.mono HB5.out.size)); clear j0 j1 j2 j3 hb6))
             go_roundg (l.length - (i + 1))
             case measure => omega
             case rel => exact ⟨i + 1,by first | rfl | (rw [hwi]),by omega,HB6,HNX.out hyes.out⟩
            | some up =>
             rw [hup] at hPa
             have hFd:=fun U h => find_at l (some ad) c up w HR.out HC.out HN.out U h
             obtain ⟨y,hy⟩ : ∃ y,thingAt l up = y:=⟨_,rfl⟩
             obtain ⟨fd,hfd⟩ : ∃ fd,(findV l up).isSome = fd:=⟨_,rfl⟩
             rw [hy,hfd] at hFd
             have hst : Aside0 (stepR l i x = (fd && (y.f1 == 1))):=⟨by unfold stepR parR; rw [HTH.out hth,HRI.out,hup]; show (true && true && ((findV l up).isSome && (thingAt l up).f1 == 1)) = _; rw [hy,hfd]; rfl⟩
             replace hPa:=Aside0.mk hPa
             replace hFd:=Aside0.mk hFd
             replace hup:=Aside0.mk hup
             clear hy hfd hth
             cases fd with
             | false =>
              have hno : Aside0 (T = false):=HNO.out (by rw [hst.out]; rfl)
              go_wp2_with (first | (go_at_call 70; refine (hLn.out _ hS2).mono ?_; rintro e w5 ⟨rfl,hb5⟩; have hX5:=blk_below hX2 hb5; obtain ⟨j0,j1,j2,j3⟩:=cells4 hX5; clear k0 k1 k2 k3; have HB5:=Aside0.mk (HS2.out.trans (hb5.mono HS2.out.size)); replace hX5:=Aside0.mk hX5; clear hb5) | (go_at_call 35; refine (hPa.out _).mono ?_; rintro e w6 ⟨rfl,hb6⟩; have HB6:=Aside0.mk (HB5.out.trans (hb6.mono HB5.out.size)); clear j0 j1 j2 j3 hb6) | (go_at_call 33; refine (hFd.out _ HB6.out).mono ?_; rintro e w7 ⟨X7,d7,rfl,hd7,hC7,hb7⟩; have HB7:=Aside0.mk (HB6.out.trans (hb7.mono HB6.out.size)); have HB8 : Aside0 (Below w.heap.size w (w7.alloc (.cells #[.string y.f0,.int .i64 y.f1,.slice X7 y.f2.length d7,.string y.f3] 41))):=⟨below_alloc HB7.out _⟩; obtain ⟨m0,m1,m2,m3⟩:=cells4 (blk_new w7 (.cells #[.string y.f0,.int .i64 y.f1,.slice X7 y.f2.length d7,.string y.f3] 41)); clear hd7 hC7 hb7))
              go_ret
              exact ⟨by rw [hno.out]; rfl,HB8.out⟩
             | true =>
              cases hk1 : (y.f1 == 1) with
              | false =>
               have hk2 : (y.f1 != 1) = true:=by rw [bne,hk1]; rfl
               have hno : Aside0 (T = false):=HNO.out (by rw [hst.out,hk1]; rfl)
               replace hk1:=Aside0.mk hk1
               go_wp2_with (first | (go_at_call 70; refine (hLn.out _ hS2).mono ?_; rintro e w5 ⟨rfl,hb5⟩; have hX5:=blk_below hX2 hb5; obtain ⟨j0,j1,j2,j3⟩:=cells4 hX5; clear k0 k1 k2 k3; have HB5:=Aside0.mk (HS2.out.trans (hb5.mono HS2.out.size)); replace hX5:=Aside0.mk hX5; clear hb5) | (go_at_call 35; refine (hPa.out _).mono ?_; rintro e w6 ⟨rfl,hb6⟩; have HB6:=Aside0.mk (HB5.out.trans (hb6.mono HB5.out.size)); clear j0 j1 j2 j3 hb6) | (go_at_call 33; refine (hFd.out _ HB6.out).mono ?_; rintro e w7 ⟨X7,d7,rfl,hd7,hC7,hb7⟩; have HB7:=Aside0.mk (HB6.out.trans (hb7.mono HB6.out.size)); have HB8 : Aside0 (Below w.heap.size w (w7.alloc (.cells #[.string y.f0,.int .i64 y.f1,.slice X7 y.f2.length d7,.string y.f3] 41))):=⟨below_alloc HB7.out _⟩; obtain ⟨m0,m1,m2,m3⟩:=cells4 (blk_new w7 (.cells #[.string y.f0,.int .i64 y.f1,.slice X7 y.f2.length d7,.string y.f3] 41)); clear hd7 hC7 hb7))
               go_ret
               exact ⟨by rw [hno.out]; rfl,HB8.out⟩
              | true =>
               have hk2 : (y.f1 != 1) = false:=by rw [bne,hk1]; rfl
               have hyes : Aside0 (stepR l i x = true):=⟨by rw [hst.out,hk1]; rfl⟩
               replace hk1:=Aside0.mk hk1
               go_wp2_with (first | (go_at_call 70; refine (hLn.out _ hS2).mono ?_; rintro e w5 ⟨rfl,hb5⟩; have hX5:=blk_below hX2 hb5; obtain ⟨j0,j1,j2,j3⟩:=cells4 hX5; clear k0 k1 k2 k3; have HB5:=Aside0.mk (HS2.out.trans (hb5.mono HS2.out.size)); replace hX5:=Aside0.mk hX5; clear hb5) | (go_at_call 35; refine (hPa.out _).mono ?_; rintro e w6 ⟨rfl,hb6⟩; have HB6:=Aside0.mk (HB5.out.trans (hb6.mono HB5.out.size)); clear j0 j1 j2 j3 hb6) | (go_at_call 33; refine (hFd.out _ HB6.out).mono ?_; rintro e w7 ⟨X7,d7,rfl,hd7,hC7,hb7⟩; have HB7:=Aside0.mk (HB6.out.trans (hb7.mono HB6.out.size)); have HB8 : Aside0 (Below w.heap.size w (w7.alloc (.cells #[.string y.f0,.int .i64 y.f1,.slice X7 y.f2.length d7,.string y.f3] 41))):=⟨below_alloc HB7.out _⟩; obtain ⟨m0,m1,m2,m3⟩:=cells4 (blk_new w7 (.cells #[.string y.f0,.int .i64 y.f1,.slice X7 y.f2.length d7,.string y.f3] 41)); clear hd7 hC7 hb7))
               go_roundg (l.length - (i + 1))
               case measure => omega
               case rel => exact ⟨i + 1,by first | rfl | (rw [hwi]),by omega,HB8,HNX.out hyes.out⟩
          ·have n2 : (x.f1 != 2) = true:=by rw [hk]; rfl
           have n3 : (x.f1 != 3) = false:=by rw [hk]; rfl
           have hthd2:=hthd
           rw [hk] at hthd2
           replace hk:=Aside0.mk hk
           clear hthd
           by_cases hz : x.f2.length = 0
           ·have hg : decide ((x.f2.length : Int) > 0) = false:=decide_eq_false (by omega)
            have hg' : decide ((0 : Int) < (x.f2.length : Int)) = false:=decide_eq_false (by omega)
            have hg3:=Aside0.mk hz
            have hg4 : (0 < x.f2.length) = False:=eq_false (by omega)
            have hg5 : (x.f2 = []) = True:=eq_true (List.eq_nil_of_length_eq_zero hz)
            have hg6 : decide (0 < x.f2.length) = false:=decide_eq_false (by omega)
            have hz' : decide (x.f2.length = 0) = true:=decide_eq_true hz
            rw [hz'] at hthd2
            clear hz hz'
            have hth : thingB x = true:=by rw [hthd2]; simp
            clear hthd2
            cases hup : parentV x.f0 with
            | none =>
             rw [hup] at hPa
             have hyes : Aside0 (stepR l i x = true):=⟨by unfold stepR parR; rw [HTH.out hth,HRI.out,hup]; rfl⟩
             replace hPa:=Aside0.mk hPa
             replace hup:=Aside0.mk hup
             clear hth
             go_wp2_with (first | (go_at_call 70; refine (hLn.out _ hS2).mono ?_; rintro e w5 ⟨rfl,hb5⟩; have hX5:=blk_below hX2 hb5; obtain ⟨j0,j1,j2,j3⟩:=cells4 hX5; clear k0 k1 k2 k3; have HB5:=Aside0.mk (HS2.out.trans (hb5.mono HS2.out.size)); replace hX5:=Aside0.mk hX5; clear hb5) | (go_at_call 35; refine (hPa.out _).mono ?_; rintro e w6 ⟨rfl,hb6⟩; have HB6:=Aside0.mk (HB5.out.trans (hb6.mono HB5.out.size)); clear j0 j1 j2 j3 hb6))
             go_roundg (l.length - (i + 1))
             case measure => omega
             case rel => exact ⟨i + 1,by first | rfl | (rw [hwi]),by omega,HB6,HNX.out hyes.out⟩
            | some up =>
             rw [hup] at hPa
             have hFd:=fun U h => find_at l (some ad) c up w HR.out HC.out HN.out U h
             obtain ⟨y,hy⟩ : ∃ y,thingAt l up = y:=⟨_,rfl⟩
             obtain ⟨fd,hfd⟩ : ∃ fd,(findV l up).isSome = fd:=⟨_,rfl⟩
             rw [hy,hfd] at hFd
             have hst : Aside0 (stepR l i x = (fd && (y.f1 == 1))):=⟨by unfold stepR parR; rw [HTH.out hth,HRI.out,hup]; show (true && true && ((findV l up).isSome && (thingAt l up).f1 == 1)) = _; rw [hy,hfd]; rfl⟩
             replace hPa:=Aside0.mk hPa
             replace hFd:=Aside0.mk hFd
             replace hup:=Aside0.mk hup
             clear hy hfd hth
             cases fd with
             | false =>
              have hno : Aside0 (T = false):=HNO.out (by rw [hst.out]; rfl)
              go_wp2_with (first | (go_at_call 70; refine (hLn.out _ hS2).mono ?_; rintro e w5 ⟨rfl,hb5⟩; have hX5:=blk_below hX2 hb5; obtain ⟨j0,j1,j2,j3⟩:=cells4 hX5; clear k0 k1 k2 k3; have HB5:=Aside0.mk (HS2.out.trans (hb5.mono HS2.out.size)); replace hX5:=Aside0.mk hX5; clear hb5) | (go_at_call 35; refine (hPa.out _).mono ?_; rintro e w6 ⟨rfl,hb6⟩; have HB6:=Aside0.mk (HB5.out.trans (hb6.mono HB5.out.size)); clear j0 j1 j2 j3 hb6) | (go_at_call 33; refine (hFd.out _ HB6.out).mono ?_; rintro e w7 ⟨X7,d7,rfl,hd7,hC7,hb7⟩; have HB7:=Aside0.mk (HB6.out.trans (hb7.mono HB6.out.size)); have HB8 : Aside0 (Below w.heap.size w (w7.alloc (.cells #[.string y.f0,.int .i64 y.f1,.slice X7 y.f2.length d7,.string y.f3] 41))):=⟨below_alloc HB7.out _⟩; obtain ⟨m0,m1,m2,m3⟩:=cells4 (blk_new w7 (.cells #[.string y.f0,.int .i64 y.f1,.slice X7 y.f2.length d7,.string y.f3] 41)); clear hd7 hC7 hb7))
              go_ret
              exact ⟨by rw [hno.out]; rfl,HB8.out⟩
             | true =>
              cases hk1 : (y.f1 == 1) with
              | false =>
               have hk2 : (y.f1 != 1) = true:=by rw [bne,hk1]; rfl
               have hno : Aside0 (T = false):=HNO.out (by rw [hst.out,hk1]; rfl)
               replace hk1:=Aside0.mk hk1
               go_wp2_with (first | (go_at_call 70; refine (hLn.out _ hS2).mono ?_; rintro e w5 ⟨rfl,hb5⟩; have hX5:=blk_below hX2 hb5; obtain ⟨j0,j1,j2,j3⟩:=cells4 hX5; clear k0 k1 k2 k3; have HB5:=Aside0.mk (HS2.out.trans (hb5.mono HS2.out.size)); replace hX5:=Aside0.mk hX5; clear hb5) | (go_at_call 35; refine (hPa.out _).mono ?_; rintro e w6 ⟨rfl,hb6⟩; have HB6:=Aside0.mk (HB5.out.trans (hb6.mono HB5.out.size)); clear j0 j1 j2 j3 hb6) | (go_at_call 33; refine (hFd.out _ HB6.out).mono ?_; rintro e w7 ⟨X7,d7,rfl,hd7,hC7,hb7⟩; have HB7:=Aside0.mk (HB6.out.trans (hb7.mono HB6.out.size)); have HB8 : Aside0 (Below w.heap.size w (w7.alloc (.cells #[.string y.f0,.int .i64 y.f1,.slice X7 y.f2.length d7,.string y.f3] 41))):=⟨below_alloc HB7.out _⟩; obtain ⟨m0,m1,m2,m3⟩:=cells4 (blk_new w7 (.cells #[.string y.f0,.int .i64 y.f1,.slice X7 y.f2.length d7,.string y.f3] 41)); clear hd7 hC7 hb7))
               go_ret
               exact ⟨by rw [hno.out]; rfl,HB8.out⟩
              | true =>
               have hk2 : (y.f1 != 1) = false:=by rw [bne,hk1]; rfl
               have hyes : Aside0 (stepR l i x = true):=⟨by rw [hst.out,hk1]; rfl⟩
               replace hk1:=Aside0.mk hk1
               go_wp2_with (first | (go_at_call 70; refine (hLn.out _ hS2).mono ?_; rintro e w5 ⟨rfl,hb5⟩; have hX5:=blk_below hX2 hb5; obtain ⟨j0,j1,j2,j3⟩:=cells4 hX5; clear k0 k1 k2 k3; have HB5:=Aside0.mk (HS2.out.trans (hb5.mono HS2.out.size)); replace hX5:=Aside0.mk hX5; clear hb5) | (go_at_call 35; refine (hPa.out _).mono ?_; rintro e w6 ⟨rfl,hb6⟩; have HB6:=Aside0.mk (HB5.out.trans (hb6.mono HB5.out.size)); clear j0 j1 j2 j3 hb6) | (go_at_call 33; refine (hFd.out _ HB6.out).mono ?_; rintro e w7 ⟨X7,d7,rfl,hd7,hC7,hb7⟩; have HB7:=Aside0.mk (HB6.out.trans (hb7.mono HB6.out.size)); have HB8 : Aside0 (Below w.heap.size w (w7.alloc (.cells #[.string y.f0,.int .i64 y.f1,.slice X7 y.f2.length d7,.string y.f3] 41))):=⟨below_alloc HB7.out _⟩; obtain ⟨m0,m1,m2,m3⟩:=cells4 (blk_new w7 (.cells #[.string y.f0,.int .i64 y.f1,.slice X7 y.f2.length d7,.string y.f3] 41)); clear hd7 hC7 hb7))
               go_roundg (l.length - (i + 1))
               case measure => omega
               case rel => exact ⟨i + 1,by first | rfl | (rw [hwi]),by omega,HB8,HNX.out hyes.out⟩
           ·have hg : decide ((x.f2.length : Int) > 0) = true:=decide_eq_true (by omega)
            have hg' : decide ((0 : Int) < (x.f2.length : Int)) = true:=decide_eq_true (by omega)
            have hg3:=Aside0.mk hz
            have hg4 : (0 < x.f2.length) = True:=eq_true (by omega)
            have hg5 : (x.f2 = []) = False:=eq_false (fun k => hz (by rw [k]; rfl))
            have hg6 : decide (0 < x.f2.length) = true:=decide_eq_true (by omega)
            have hz' : decide (x.f2.length = 0) = false:=decide_eq_false hz
            rw [hz'] at hthd2
            clear hz
            have hno : Aside0 (T = false):=HNO.out (by unfold stepR; rw [hthd2]; simp)
            clear hthd2
            go_wp2_with (go_at_call 70; refine (hLn.out _ hS2).mono ?_; rintro e w5 ⟨rfl,hb5⟩; have hX5:=blk_below hX2 hb5; obtain ⟨j0,j1,j2,j3⟩:=cells4 hX5; clear k0 k1 k2 k3; have HB5:=Aside0.mk (HS2.out.trans (hb5.mono HS2.out.size)); replace hX5:=Aside0.mk hX5; clear hb5)
            go_ret
            exact ⟨by rw [hno.out]; rfl,HB5.out⟩
   ·have hie : i = l.length:=by omega
    have hdb : decide ((i : Int) < (l.length : Int)) = false:=decide_eq_false (by omega)
    have hTt : Aside0 (T = true):=⟨by rw [← HT.out]; exact (tree_steps hbig).2 (fun j hj => S1.out j hj (by omega))⟩
    go_wp2
    go_ret
    exact ⟨by rw [hTt.out]; rfl,B1.out⟩
 ·have hb1 : decide ((l.length : Int) > 1024) = true:=decide_eq_true (by omega)
  have hb2 : decide ((1024 : Int) < (l.length : Int)) = true:=decide_eq_true (by omega)
  have ht : treeB l = false:=by unfold treeB; rw [decide_eq_false hbig,Bool.false_and]
  rw [ht]
  clear ht
  go_enter Tryz.func31,Tryz.ntmps31
  go_wp2
  go_ret
  exact ⟨rfl,Below.refl _ _⟩
end Go.Proofs.YthhohbidjhcjeaaGreatDoor.H
