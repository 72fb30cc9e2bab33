/- What the head of this seat's program says, told once for all rows. -/
import Derived.Test.YthhohbidjhcjeaaGreatDoorBM3
import Derived.Test.YthhohbidjhcjeaaGreatDoorBM7
import Derived.Maps.OwnIn
import Derived.RegionIn
import Derived.Deep.RegionWith
import Derived.Test.YthhohbidjhcjeaaGreatDoorBM6
import Derived.Test.YthhohbidjhcjeaaGreatDoorBM1
import Derived.Test.YthhohbidjhcjeaaGreatDoorBWd
import Derived.Deep.Slices
import Derived.Deep.Fields
import Derived.ChangeSame
import Derived.ProofKit
import Derived.SizedLaws
import Derived.Test.YthhohbidjhcjeaaGreatDoorRows
import Derived.WalkKit
namespace Go.Proofs.YthhohbidjhcjeaaGreatDoor.H
open Go.RowKit Go.Shelf Go.Proofs.YthhohbidjhcjeaaGreatDoorW.PrintWords Go.Proofs.YthhohbidjhcjeaaGreatDoorW.PrintLast Go.Proofs.YthhohbidjhcjeaaGreatDoorW.PrintMore
open Go.Proofs.YthhohbidjhcjeaaGreatDoor.Q
attribute [local go_sem] Oper.semAt_some

set_option maxHeartbeats 1000000 in
theorem back_in (n : Nat) (A : Option Addr) (len cap : Nat) (w : World) :
  CallsIn Fence.wide n Tryz.prog 77 #[.slice A len cap] w fun e w' => e = .returned (.func (.func 118) #[] #[.pointer (some ⟨w.heap.size,0,none⟩)]) ∧ w' = w.alloc (.cells #[.slice A len cap] 34):=by
 refine callsIn_of_wp Tryz.func77 rfl trivial ?_ rfl
 simp only [Tryz.ntmps77,List.size_toArray,List.length_cons,List.length_nil,Nat.reduceAdd,Nat.reduceSub,Array.replicate_succ,Array.replicate_zero,List.push_toArray,List.append_toArray,List.nil_append,List.cons_append]
 gi_wp2
 go_ret
 exact ⟨rfl,rfl⟩

theorem back_stops (n : Nat) (hn : 1 ≤ n) (Bs : Nat) (w0 w : World) (ok : Nat → Prop) (A : Option Addr) (cap : Nat) (zs : List S25) (hlen : zs.length * 112 ≤ 140737488355328) (hF : Kd.F k25 w0 ok A zs.length zs)
  (hW : Below w0.heap.size w0 w) (hBs : w.cell? ⟨Bs,0,none⟩ = some (.slice A zs.length cap)) :
  SeqStopsK Fence.wide n Tryz.prog 118 #[.pointer (some ⟨Bs,0,none⟩)] (encB (w0:=w0) (ok:=ok)) (KpB w0 Bs) (fun ys => ys.map (fun y => y.2.1.1) = zs.reverse) (fun pre => pre.map (fun y => y.2.1.1) <+: zs.reverse) zs.length w :=
 fun l J Jx W hWW _ _ hY h0 => back1 n hn l Bs w0 ok A cap zs hlen hF J Jx hY W (hW.trans (hWW.mono hW.size)) (pw_cell_below hWW hBs) h0

/-- An object that is no cells is no row's block. -/
theorem row_cells {w : World} {α : Type} {d : Kd α} {e base : Nat} {B : Nat → Prop} {v : Value} {xs : List α} (h : Kd.NN d e w base B v xs) {r : Nat} (hr : ∃ o : Obj,w.heap[r]? = some o ∧ o.isCells = false) : v.ownBlock ≠ some r:=fun he => by
 obtain ⟨cells,hc⟩:=Kd.NN_typed h r he
 obtain ⟨o,ho,hn⟩:=hr
 rw [hc] at ho
 cases ho
 cases hn
theorem row_box {w : World} {α : Type} {d : Kd α} {e base : Nat} {B : Nat → Prop} {v u : Value} {xs : List α} {Bx t : Nat} (h : Kd.NN d e w base B v xs) (hb : Boxed w Bx t u) (hne : e ≠ t) : v.ownBlock ≠ some Bx:=fun he => by
 obtain ⟨cells,hc⟩:=Kd.NN_typed h Bx he
 rw [show w.heap[Bx]? = _ from hb] at hc
 cases hc
 exact hne rfl

/-- What a round leaves: what the law of the loop asks. -/
theorem all_round {w W w1 w2 : World} {B : Nat → Prop} {v v2 sv : Value} {xs ys : List S25} {o : Obj} {n0 : Nat} (hbel : Below w.heap.size w W) (hbW : Below W.heap.size W w1) (hN : Kd.NN k25 25 W w.heap.size B v xs) (hB : ∀ k,B k → k < w.heap.size)
  (hb : Boxed W (w.heap.size + 1) 34 sv) (_hv : Boxed W w.heap.size 34 v) (hg2 : (w1.alloc o).grownBy w2 v.ownBlock) (hN2 : Kd.NN k25 25 w2 w.heap.size B v2 ys) (hv2 : Boxed w2 w.heap.size 34 v) (hs2 : Boxed w2 (w.heap.size + 1) 34 sv) :
  KeepsFrom n0 W (w2.setCell ⟨w.heap.size,0,none⟩ v2) ∧ KpB w (w.heap.size + 1) W (w2.setCell ⟨w.heap.size,0,none⟩ v2) ∧
   (∃ v,Boxed (w2.setCell ⟨w.heap.size,0,none⟩ v2) w.heap.size 34 v ∧ Kd.NN k25 25 (w2.setCell ⟨w.heap.size,0,none⟩ v2) w.heap.size B v ys) ∧ Boxed (w2.setCell ⟨w.heap.size,0,none⟩ v2) (w.heap.size + 1) 34 sv ∧ Below w.heap.size w (w2.setCell ⟨w.heap.size,0,none⟩ v2):=by
 have h0:=hbel.size
 have h1:=hbW.size
 have hs3 : Boxed (w2.setCell ⟨w.heap.size,0,none⟩ v2) (w.heap.size + 1) 34 sv:=hs2.other (by omega) _
 have hbb : Below w.heap.size W (w2.setCell ⟨w.heap.size,0,none⟩ v2):=by
  refine Below.setCell (p:=⟨w.heap.size,0,none⟩) ?_ (Nat.le_refl _) _
  refine Below.grown ((hbW.mono h0).alloc (by omega) o) hg2 (by simp; omega) (fun k e => Kd.NN_base hN k e)
 have hke : KeepsOthers W w1:=⟨h1,fun k o hk _ => (hbW.block k (Array.getElem?_eq_some_iff.1 hk).1).trans hk⟩
 have hko : KeepsOthers (w1.alloc o) w2:=KeepsOthers.of_grownBy hg2 (fun j o' e hj => by
  obtain ⟨cells,hc⟩:=Kd.NN_typed hN j e
  have hlt:=Kd.NN_lt hN j e
  have : (w1.alloc o).heap[j]? = some (.cells cells 25 (0,0)):=(Below.heap_alloc w1 o j (by omega)).trans ((hbW.block j hlt).trans hc)
  rw [this] at hj
  cases hj
  rfl)
 refine ⟨((hke.trans (KeepsOthers.alloc _ _)).trans (hko.trans (KeepsOthers.setCell _ _ _))).from _,⟨hbb,fun u hu => by rw [hb.cell] at hu; cases hu; exact hs3.cell⟩,⟨v2,hv2.set v2,Kd.NN_far hN2 hB (Nat.le_refl _) (row_box hN2 hv2 (by decide)) _⟩,hs3,hbel.trans hbb⟩

/-- A patch's zero value, its cells, its bytes. -/
theorem infoP : (Tryz.prog.info? 25).map (fun i => (i.zero,i.size,i.bytes)) = some (some (.agg #[(.int .i64 0),(.string ⟨#[]⟩),(.string ⟨#[]⟩),(.string ⟨#[]⟩),(.int .i64 0),(.slice none 0 0),(.slice none 0 0)]),7,112):=by kernel_rfl
set_option maxRecDepth 100000 in
set_option maxHeartbeats 2000000 in
theorem all_in (w : World) (ok : Nat → Prop) (A : Option Addr) (cap : Nat) (zs : List S25) (hlen : zs.length * 112 ≤ 140737488355328) (hF0 : Kd.F k25 w ok A zs.length zs) :
  CallsIn Fence.wide 6 Tryz.prog 40 #[.slice A zs.length cap] w fun e W' => ∃ v,e = .returned v ∧ Kd.N k25 25 W' w.heap.size (fun k_ => (ok k_ ∨ w.heap.size ≤ k_)) v (zs.reverse.map invS) ∧ Below w.heap.size w W':=by
 obtain ⟨B,hBd⟩ : ∃ B : Nat → Prop,B = fun k => ok k ∧ k < w.heap.size:=⟨_,rfl⟩
 have hF : Kd.F k25 w B A zs.length zs:=by rw [hBd]; exact Kd.F_bound hF0
 have hB : ∀ k,B k → k < w.heap.size:=by rw [hBd]; exact fun k h => h.2
 have hBok : ∀ k,B k → ok k:=by rw [hBd]; exact fun k h => h.1
 clear hBd hF0
 refine callsIn_of_wp_marks Tryz.func40 rfl trivial ?_ rfl
 simp only [Tryz.ntmps40,List.size_toArray,List.length_cons,List.length_nil,Nat.reduceAdd,Nat.reduceSub,Array.replicate_succ,Array.replicate_zero,List.push_toArray,List.append_toArray,List.nil_append,List.cons_append]
 gi_wp2_with (refine ⟨trivial,?_⟩; gi_at_call 77; refine (back_in _ _ _ _ _).mono ?_; rintro e w' ⟨rfl,rfl⟩)
 have bO:=(Boxed.new w 34 (.slice none 0 0)).alloc (.cells #[.slice A zs.length cap] 34)
 have bS:=Boxed.new (w.alloc (.cells #[.slice none 0 0] 34)) 34 (.slice A zs.length cap)
 simp only [World.size_alloc] at bO bS
 have hB0 : Below w.heap.size w ((w.alloc (.cells #[.slice none 0 0] 34)).alloc (.cells #[.slice A zs.length cap] 34)):=((Below.refl _ w).alloc (Nat.le_refl _) _).alloc (by simp) _
 have hsz : ((w.alloc (.cells #[.slice none 0 0] 34)).alloc (.cells #[.slice A zs.length cap] 34)).heap.size = w.heap.size + 2:=by simp
 obtain ⟨W0,hW0⟩ : ∃ W0,(w.alloc (.cells #[.slice none 0 0] 34)).alloc (.cells #[.slice A zs.length cap] 34) = W0:=⟨_,rfl⟩
 rw [hW0] at bO bS hB0 hsz ⊢
 clear hW0
 refine wpIn_rangeFunc_ownH (F:=Fence.wide) rfl (by omega) (gf:=118) (lb:=#[.pointer (some ⟨w.heap.size + 1,0,none⟩)]) rfl trivial (enters_of Tryz.func118 (by kernel_rfl) rfl)
  (back_stops 5 (by omega) (w.heap.size + 1) w W0 B A cap zs hlen hF hB0 bS.cell) ?kt ?kb (Below.refl _ _) (fun _ => rfl)
  (fun pre W => (∃ v,Boxed W w.heap.size 34 v ∧ Kd.NN k25 25 W w.heap.size B v (pre.map (fun y => invS y.2.1.1))) ∧ Boxed W (w.heap.size + 1) 34 (.slice A zs.length cap) ∧ Below w.heap.size w W)
  (fun _ _ _ => False)
  ?own
  (fun _ _ _ _ _ hs _ _ => hs)
  ⟨⟨_,bO,Kd.NN_nil _ _ _ _ _⟩,bS,hB0⟩
  (fun x a' W => ∃ Bx,w.heap.size + 1 < Bx ∧ W.heap[Bx]? = some (.cells x.2.1.2.toArray 25 (0,0)) ∧ a' = { tmps:=#[.slice A zs.length cap,undef,.slice none 0 0,.pointer (some ⟨w.heap.size,0,none⟩),undef,.pointer (some ⟨Bx,0,none⟩),.slice A zs.length cap,.func (.func 118) #[] #[.pointer (some ⟨w.heap.size + 1,0,none⟩)],.int .i64 (x.1 : Int),.agg x.2.1.2.toArray,undef,undef,undef,undef,undef,undef],defers:=[] })
  ?ownx ?assign ?body ?done ?stop
 case kt => exact fun h k => ⟨h.1.trans k.1,fun v hv => k.2 v (h.2 v hv)⟩
 case kb => exact fun W l o o' hl h hc hw => ⟨belowK_b (w:=W0) (by omega) W l o o' hl h hc hw,fun v hv => cell_kept hv (grownBy_putObj' W l o') (fun r e => by cases e; exact ⟨o,h,hc⟩)⟩
 case own =>
  rintro pre X Y row ⟨⟨v,hv,hN⟩,hb,hbel⟩ hg hr
  refine ⟨⟨v,boxed_own _ 34 (fun (_ : Unit) => v) () X Y row hv hg (fun r e => (hr r e).2),Kd.NN_grown hN hB hg (fun r e => ⟨by have:=(hr r e).1; omega,row_cells hN (hr r e).2⟩)⟩,boxed_own _ 34 (fun (_ : Unit) => Value.slice A zs.length cap) () X Y row hb hg (fun r e => (hr r e).2),ownFrom_below (β:=Unit) (Nat.le_refl _) (by omega) () X Y row hbel hg hr⟩
 case ownx =>
  rintro x a' u X Y row ⟨Bx,h1,h2,h3⟩ hg hr
  refine ⟨Bx,h1,?_,h3⟩
  refine (hg.block Bx (Array.getElem?_eq_some_iff.1 h2).1 (fun e' => ?_)).trans h2
  obtain ⟨o,ho,hc⟩:=(hr Bx e'.symm).2
  rw [h2] at ho; cases ho; cases hc
 case assign =>
  rintro l pre ⟨i,⟨⟨x,c⟩,hx⟩⟩ W K ⟨⟨v,hv,hN⟩,hb,hbel⟩ hK
  obtain ⟨A5,c5,A6,c6,hce,_⟩:=k25_openF hx
  dsimp only at hce
  subst hce
  dsimp only [encB] at hK ⊢
  gi_wp2
  have hWs:=hbel.size
  have hlb:=hb.lt
  exact hK _ _ ((KeepsOthers.alloc _ _).from _) ⟨(Below.refl _ W).alloc hWs _,fun v hv => by rw [hb.cell] at hv; cases hv; exact (hb.alloc _).cell⟩ ⟨⟨v,hv.alloc _,Kd.NN_below hN (below_alloc (Below.refl _ _) _)⟩,hb.alloc _,hbel.alloc hWs _⟩ ⟨W.heap.size,by omega,World.alloc_heap_new W _,rfl⟩
 case body =>
  rintro l pre ⟨i,⟨⟨x,c⟩,hx⟩⟩ a' W hl _ ⟨⟨v,hv,hN⟩,hb,hbel⟩ ⟨Bx,hBx,hbx,rfl⟩ hlt
  obtain ⟨A5,c5,A6,c6,hce,_⟩:=k25_openF hx
  dsimp only at hce
  subst hce
  dsimp only at hbx ⊢
  have hcO:=hv.cell
  have y0:=blk_cell hbx 0
  have y1:=blk_cell hbx 1
  have y2:=blk_cell hbx 2
  have y3:=blk_cell hbx 3
  have y4:=blk_cell hbx 4
  have y5:=blk_cell hbx 5
  have y6:=blk_cell hbx 6
  simp only [List.getElem?_toArray,List.getElem?_cons_zero,List.getElem?_cons_succ] at y0 y1 y2 y3 y4 y5 y6
  gi_wp2
  have fol : Tryz.prog.follows .mixedOrders = true:=by kernel_rfl
  have hx1:=Kd.FK_below hx hbel.drew
  obtain ⟨i0,hi,hz0,hz1,hz2⟩:=info_parts infoP
  have hpl : pre.length < zs.length:=hlt
  have h0w:=hbel.size
  have hvlt:=hv.lt
  refine wpIn_region_any fol ?_
  change wpAnyIn _ _ _ _ _ _ _ _ _ (World.drew _)
  refine wpAnyIn_ready (rs:=[0,1]) (by kernel_rfl) (by simp) ?_
  refine AllReadyIn.cons rfl (fun K hK => ?_) (AllReadyIn.cons rfl (fun K hK => ?_) AllReadyIn.nil)
  ·go_simp
   refine hK _ _ ?_
   clear hK K
   refine wpAnyIn_ready (rs:=[1]) (by kernel_rfl) (by simp) ?_
   refine AllReadyIn.cons rfl (fun K hK => ?_) AllReadyIn.nil
   go_simp
   refine hK _ _ ?_
   clear hK K
   refine wpAnyIn_ready (rs:=[2]) (by kernel_rfl) (by simp) ?_
   refine AllReadyIn.cons rfl (fun K hK => ?_) AllReadyIn.nil
   go_simp
   refine ⟨trivial,?_⟩
   refine (CallsIn.inRound l (callsIn_wide.2 (inv_FK x _ _ B hx1))).mono ?_
   rintro e w1 ⟨c',rfl,hc',hb1⟩
   obtain ⟨B5,d5,B6,d6,hcc,_⟩:=k25_openF hc'
   subst hcc
   have hbW : Below W.heap.size W w1:=⟨hb1.os,hb1.tape,hb1.output,hb1.size,hb1.block⟩
   clear hb1
   have hN1:=Kd.NN_below (Kd.NN_below hN hbW) (below_alloc (Below.refl _ _) (.cells #[.int .i64 (invS x).f0,.string (invS x).f1,.string (invS x).f2,.string (invS x).f3,.int .i64 (invS x).f4,.slice B5 (invS x).f5.length d5,.slice B6 (invS x).f6.length d6] 25))
   have hsz0:=hbW.size
   have hlt1 : w.heap.size < w1.heap.size:=by omega
   have hc1:=Boxed.cell (W:=w1) (B:=w.heap.size) (t:=34) (v:=v) ((hbW.block _ hv.lt).trans hv)
   refine hK _ _ ?_
   clear hK K
   refine wpAnyIn_ready (rs:=[3]) (by kernel_rfl) (by simp) ?_
   refine AllReadyIn.cons rfl (fun K hK => ?_) AllReadyIn.nil
   go_simp
   refine hK _ _ ?_
   clear hK K
   refine wpAnyIn_ready (rs:=[4]) (by kernel_rfl) (by simp) ?_
   refine AllReadyIn.cons rfl (fun K hK => ?_) AllReadyIn.nil
   have hsz1:=hbW.size
   obtain ⟨inner,ho,hr⟩:=Kd.NN_own hN1
   refine stepIn_append_own_at rfl (.tmp 10) (.tmp 13) 34 rfl w.heap.size 25 i0 _ 7 112 Tryz.underlying34 hi hz0 hz1 hz2 rfl (by decide) v _ inner rfl ho ⟨w1.heap.size,0,none⟩ 1 1 _ rfl rfl (World.news_of_block (cs:=#[.int .i64 (invS x).f0,.string (invS x).f1,.string (invS x).f2,.string (invS x).f3,.int .i64 (invS x).f4,.slice B5 (invS x).f5.length d5,.slice B6 (invS x).f6.length d6]) (t:=25) (fr:=(0,0)) (heap_alloc_new w1 _)) (k25.K_one (Kd.FK_now hc')) (by simp only [maxLen,List.length_map]; omega) (by simp only [List.length_map]; omega) (by simp; omega) ?_
   intro v2 w2 hown2 hg2 _ hat2
   have hN2:=Kd.NN_append ho hr hB (Kd.FK_below hc' (below_alloc (Below.refl _ _) _)) (by rw [List.length_map] at hown2 ⊢; exact hown2) hg2
   have hv2 : Boxed w2 w.heap.size 34 v:=Boxed.kept (Boxed.alloc (W:=w1) (B:=w.heap.size) (t:=34) (v:=v) ((hbW.block _ hv.lt).trans hv) _) hg2 (fun e => row_box hN hv (by decide) e.symm)
   have hs2 : Boxed w2 (w.heap.size + 1) 34 (.slice A zs.length cap):=Boxed.kept (Boxed.alloc (W:=w1) (B:=w.heap.size + 1) (t:=34) (v:=.slice A zs.length cap) ((hbW.block _ hb.lt).trans hb) _) hg2 (fun e => row_box hN hb (by decide) e.symm)
   have hfin:=all_round (n0:=W0.heap.size) hbel hbW hN hB hb hv hg2 hN2 hv2 hs2
   clear hN2 hs2 hr ho hN1
   obtain ⟨g2,cap2,rfl⟩:=ownsRow_succ hown2
   have hc2:=hv2.cell
   have hf2:=hv2.frozen
   clear hown2
   refine hK _ _ ?_
   clear hK K
   refine wpAnyIn_ready (rs:=[5]) (by kernel_rfl) (by simp) ?_
   refine AllReadyIn.cons rfl (fun K hK => ?_) AllReadyIn.nil
   go_simp
   refine hK _ _ ?_
   clear hK K
   refine wpAnyIn_done (by kernel_rfl) ?_ _
   rw [List.length_map] at hfin
   exact ⟨hfin.1,hfin.2.1,by dsimp only; rw [List.map_append]; exact hfin.2.2⟩
  ·go_simp
   refine hK _ _ ?_
   clear hK K
   refine wpAnyIn_ready (rs:=[0,2]) (by kernel_rfl) (by simp) ?_
   refine AllReadyIn.cons rfl (fun K hK => ?_) (AllReadyIn.cons rfl (fun K hK => ?_) AllReadyIn.nil)
   ·go_simp
    refine hK _ _ ?_
    clear hK K
    refine wpAnyIn_ready (rs:=[2]) (by kernel_rfl) (by simp) ?_
    refine AllReadyIn.cons rfl (fun K hK => ?_) AllReadyIn.nil
    go_simp
    refine ⟨trivial,?_⟩
    refine (CallsIn.inRound l (callsIn_wide.2 (inv_FK x _ _ B hx1))).mono ?_
    rintro e w1 ⟨c',rfl,hc',hb1⟩
    obtain ⟨B5,d5,B6,d6,hcc,_⟩:=k25_openF hc'
    subst hcc
    have hbW : Below W.heap.size W w1:=⟨hb1.os,hb1.tape,hb1.output,hb1.size,hb1.block⟩
    clear hb1
    have hN1:=Kd.NN_below (Kd.NN_below hN hbW) (below_alloc (Below.refl _ _) (.cells #[.int .i64 (invS x).f0,.string (invS x).f1,.string (invS x).f2,.string (invS x).f3,.int .i64 (invS x).f4,.slice B5 (invS x).f5.length d5,.slice B6 (invS x).f6.length d6] 25))
    have hsz0:=hbW.size
    have hlt1 : w.heap.size < w1.heap.size:=by omega
    have hc1:=Boxed.cell (W:=w1) (B:=w.heap.size) (t:=34) (v:=v) ((hbW.block _ hv.lt).trans hv)
    refine hK _ _ ?_
    clear hK K
    refine wpAnyIn_ready (rs:=[3]) (by kernel_rfl) (by simp) ?_
    refine AllReadyIn.cons rfl (fun K hK => ?_) AllReadyIn.nil
    go_simp
    refine hK _ _ ?_
    clear hK K
    refine wpAnyIn_ready (rs:=[4]) (by kernel_rfl) (by simp) ?_
    refine AllReadyIn.cons rfl (fun K hK => ?_) AllReadyIn.nil
    have hsz1:=hbW.size
    obtain ⟨inner,ho,hr⟩:=Kd.NN_own hN1
    refine stepIn_append_own_at rfl (.tmp 10) (.tmp 13) 34 rfl w.heap.size 25 i0 _ 7 112 Tryz.underlying34 hi hz0 hz1 hz2 rfl (by decide) v _ inner rfl ho ⟨w1.heap.size,0,none⟩ 1 1 _ rfl rfl (World.news_of_block (cs:=#[.int .i64 (invS x).f0,.string (invS x).f1,.string (invS x).f2,.string (invS x).f3,.int .i64 (invS x).f4,.slice B5 (invS x).f5.length d5,.slice B6 (invS x).f6.length d6]) (t:=25) (fr:=(0,0)) (heap_alloc_new w1 _)) (k25.K_one (Kd.FK_now hc')) (by simp only [maxLen,List.length_map]; omega) (by simp only [List.length_map]; omega) (by simp; omega) ?_
    intro v2 w2 hown2 hg2 _ hat2
    have hN2:=Kd.NN_append ho hr hB (Kd.FK_below hc' (below_alloc (Below.refl _ _) _)) (by rw [List.length_map] at hown2 ⊢; exact hown2) hg2
    have hv2 : Boxed w2 w.heap.size 34 v:=Boxed.kept (Boxed.alloc (W:=w1) (B:=w.heap.size) (t:=34) (v:=v) ((hbW.block _ hv.lt).trans hv) _) hg2 (fun e => row_box hN hv (by decide) e.symm)
    have hs2 : Boxed w2 (w.heap.size + 1) 34 (.slice A zs.length cap):=Boxed.kept (Boxed.alloc (W:=w1) (B:=w.heap.size + 1) (t:=34) (v:=.slice A zs.length cap) ((hbW.block _ hb.lt).trans hb) _) hg2 (fun e => row_box hN hb (by decide) e.symm)
    have hfin:=all_round (n0:=W0.heap.size) hbel hbW hN hB hb hv hg2 hN2 hv2 hs2
    clear hN2 hs2 hr ho hN1
    obtain ⟨g2,cap2,rfl⟩:=ownsRow_succ hown2
    have hc2:=hv2.cell
    have hf2:=hv2.frozen
    clear hown2
    refine hK _ _ ?_
    clear hK K
    refine wpAnyIn_ready (rs:=[5]) (by kernel_rfl) (by simp) ?_
    refine AllReadyIn.cons rfl (fun K hK => ?_) AllReadyIn.nil
    go_simp
    refine hK _ _ ?_
    clear hK K
    refine wpAnyIn_done (by kernel_rfl) ?_ _
    rw [List.length_map] at hfin
    exact ⟨hfin.1,hfin.2.1,by dsimp only; rw [List.map_append]; exact hfin.2.2⟩
   ·go_simp
    refine ⟨trivial,?_⟩
    refine (CallsIn.inRound l (callsIn_wide.2 (inv_FK x _ _ B hx1))).mono ?_
    rintro e w1 ⟨c',rfl,hc',hb1⟩
    obtain ⟨B5,d5,B6,d6,hcc,_⟩:=k25_openF hc'
    subst hcc
    have hbW : Below W.heap.size W w1:=⟨hb1.os,hb1.tape,hb1.output,hb1.size,hb1.block⟩
    clear hb1
    have hN1:=Kd.NN_below (Kd.NN_below hN hbW) (below_alloc (Below.refl _ _) (.cells #[.int .i64 (invS x).f0,.string (invS x).f1,.string (invS x).f2,.string (invS x).f3,.int .i64 (invS x).f4,.slice B5 (invS x).f5.length d5,.slice B6 (invS x).f6.length d6] 25))
    have hsz0:=hbW.size
    have hlt1 : w.heap.size < w1.heap.size:=by omega
    have hc1:=Boxed.cell (W:=w1) (B:=w.heap.size) (t:=34) (v:=v) ((hbW.block _ hv.lt).trans hv)
    refine hK _ _ ?_
    clear hK K
    refine wpAnyIn_ready (rs:=[0,3]) (by kernel_rfl) (by simp) ?_
    refine AllReadyIn.cons rfl (fun K hK => ?_) (AllReadyIn.cons rfl (fun K hK => ?_) AllReadyIn.nil)
    ·go_simp
     refine hK _ _ ?_
     clear hK K
     refine wpAnyIn_ready (rs:=[3]) (by kernel_rfl) (by simp) ?_
     refine AllReadyIn.cons rfl (fun K hK => ?_) AllReadyIn.nil
     go_simp
     refine hK _ _ ?_
     clear hK K
     refine wpAnyIn_ready (rs:=[4]) (by kernel_rfl) (by simp) ?_
     refine AllReadyIn.cons rfl (fun K hK => ?_) AllReadyIn.nil
     have hsz1:=hbW.size
     obtain ⟨inner,ho,hr⟩:=Kd.NN_own hN1
     refine stepIn_append_own_at rfl (.tmp 10) (.tmp 13) 34 rfl w.heap.size 25 i0 _ 7 112 Tryz.underlying34 hi hz0 hz1 hz2 rfl (by decide) v _ inner rfl ho ⟨w1.heap.size,0,none⟩ 1 1 _ rfl rfl (World.news_of_block (cs:=#[.int .i64 (invS x).f0,.string (invS x).f1,.string (invS x).f2,.string (invS x).f3,.int .i64 (invS x).f4,.slice B5 (invS x).f5.length d5,.slice B6 (invS x).f6.length d6]) (t:=25) (fr:=(0,0)) (heap_alloc_new w1 _)) (k25.K_one (Kd.FK_now hc')) (by simp only [maxLen,List.length_map]; omega) (by simp only [List.length_map]; omega) (by simp; omega) ?_
     intro v2 w2 hown2 hg2 _ hat2
     have hN2:=Kd.NN_append ho hr hB (Kd.FK_below hc' (below_alloc (Below.refl _ _) _)) (by rw [List.length_map] at hown2 ⊢; exact hown2) hg2
     have hv2 : Boxed w2 w.heap.size 34 v:=Boxed.kept (Boxed.alloc (W:=w1) (B:=w.heap.size) (t:=34) (v:=v) ((hbW.block _ hv.lt).trans hv) _) hg2 (fun e => row_box hN hv (by decide) e.symm)
     have hs2 : Boxed w2 (w.heap.size + 1) 34 (.slice A zs.length cap):=Boxed.kept (Boxed.alloc (W:=w1) (B:=w.heap.size + 1) (t:=34) (v:=.slice A zs.length cap) ((hbW.block _ hb.lt).trans hb) _) hg2 (fun e => row_box hN hb (by decide) e.symm)
     have hfin:=all_round (n0:=W0.heap.size) hbel hbW hN hB hb hv hg2 hN2 hv2 hs2
     clear hN2 hs2 hr ho hN1
     obtain ⟨g2,cap2,rfl⟩:=ownsRow_succ hown2
     have hc2:=hv2.cell
     have hf2:=hv2.frozen
     clear hown2
     refine hK _ _ ?_
     clear hK K
     refine wpAnyIn_ready (rs:=[5]) (by kernel_rfl) (by simp) ?_
     refine AllReadyIn.cons rfl (fun K hK => ?_) AllReadyIn.nil
     go_simp
     refine hK _ _ ?_
     clear hK K
     refine wpAnyIn_done (by kernel_rfl) ?_ _
     rw [List.length_map] at hfin
     exact ⟨hfin.1,hfin.2.1,by dsimp only; rw [List.map_append]; exact hfin.2.2⟩
    ·go_simp
     refine hK _ _ ?_
     clear hK K
     refine wpAnyIn_ready (rs:=[0]) (by kernel_rfl) (by simp) ?_
     refine AllReadyIn.cons rfl (fun K hK => ?_) AllReadyIn.nil
     go_simp
     refine hK _ _ ?_
     clear hK K
     refine wpAnyIn_ready (rs:=[4]) (by kernel_rfl) (by simp) ?_
     refine AllReadyIn.cons rfl (fun K hK => ?_) AllReadyIn.nil
     have hsz1:=hbW.size
     obtain ⟨inner,ho,hr⟩:=Kd.NN_own hN1
     refine stepIn_append_own_at rfl (.tmp 10) (.tmp 13) 34 rfl w.heap.size 25 i0 _ 7 112 Tryz.underlying34 hi hz0 hz1 hz2 rfl (by decide) v _ inner rfl ho ⟨w1.heap.size,0,none⟩ 1 1 _ rfl rfl (World.news_of_block (cs:=#[.int .i64 (invS x).f0,.string (invS x).f1,.string (invS x).f2,.string (invS x).f3,.int .i64 (invS x).f4,.slice B5 (invS x).f5.length d5,.slice B6 (invS x).f6.length d6]) (t:=25) (fr:=(0,0)) (heap_alloc_new w1 _)) (k25.K_one (Kd.FK_now hc')) (by simp only [maxLen,List.length_map]; omega) (by simp only [List.length_map]; omega) (by simp; omega) ?_
     intro v2 w2 hown2 hg2 _ hat2
     have hN2:=Kd.NN_append ho hr hB (Kd.FK_below hc' (below_alloc (Below.refl _ _) _)) (by rw [List.length_map] at hown2 ⊢; exact hown2) hg2
     have hv2 : Boxed w2 w.heap.size 34 v:=Boxed.kept (Boxed.alloc (W:=w1) (B:=w.heap.size) (t:=34) (v:=v) ((hbW.block _ hv.lt).trans hv) _) hg2 (fun e => row_box hN hv (by decide) e.symm)
     have hs2 : Boxed w2 (w.heap.size + 1) 34 (.slice A zs.length cap):=Boxed.kept (Boxed.alloc (W:=w1) (B:=w.heap.size + 1) (t:=34) (v:=.slice A zs.length cap) ((hbW.block _ hb.lt).trans hb) _) hg2 (fun e => row_box hN hb (by decide) e.symm)
     have hfin:=all_round (n0:=W0.heap.size) hbel hbW hN hB hb hv hg2 hN2 hv2 hs2
     clear hN2 hs2 hr ho hN1
     obtain ⟨g2,cap2,rfl⟩:=ownsRow_succ hown2
     have hc2:=hv2.cell
     have hf2:=hv2.frozen
     clear hown2
     refine hK _ _ ?_
     clear hK K
     refine wpAnyIn_ready (rs:=[5]) (by kernel_rfl) (by simp) ?_
     refine AllReadyIn.cons rfl (fun K hK => ?_) AllReadyIn.nil
     go_simp
     refine hK _ _ ?_
     clear hK K
     refine wpAnyIn_done (by kernel_rfl) ?_ _
     rw [List.length_map] at hfin
     exact ⟨hfin.1,hfin.2.1,by dsimp only; rw [List.map_append]; exact hfin.2.2⟩
 case done =>
  rintro D ys W hD hys ⟨⟨v,hv,hN⟩,hb,hbel⟩ hK
  have hc:=hv.cell
  gi_wp2
  refine ⟨by simp,.inl ⟨_,_,rfl,run_takeDeferred hK,?_⟩⟩
  have hm : ys.map (fun y => invS y.2.1.1) = zs.reverse.map invS:=by rw [← hys,List.map_map]; rfl
  rw [hm] at hN
  refine ⟨_,results_tmp rfl _ _ _,v,rfl,?_,hbel.trans (belowK_b (w:=w) (Nat.le_refl _) W D _ _ (by omega) hK rfl rfl)⟩
  refine Kd.N_mono (Kd.NN_N (Kd.NN_grown hN hB (grownBy_putObj' W D (.deferred none)) (fun r e => by cases e; exact ⟨by omega,row_cells hN ⟨_,hK,rfl⟩⟩)) hB) (fun k hk => hk.imp (hBok k) id)
 case stop =>
  rintro D c pre W _ _ h _
  exact h.elim
end Go.Proofs.YthhohbidjhcjeaaGreatDoor.H

namespace Go.Proofs.YthhohbidjhcjeaaGreatDoor.Q
open Go.RowKit Go.Proofs.YthhohbidjhcjeaaGreatDoorW.PrintWords Go.Proofs.YthhohbidjhcjeaaGreatDoorW.PrintLast Go.Proofs.YthhohbidjhcjeaaGreatDoorW.PrintMore
open Go.Proofs.YthhohbidjhcjeaaGreatDoor.H
/-! ### in the printed form -/
def invert_All.f (l0 : List (S25)) : Option ((List (S25))):=if l0.length ≤ 1256584717458 then some (l0.reverse.map invS) else none
theorem invert_All.calls (P0_ : Nat → Prop) (A0 : Option Addr) (c0 : Nat) (l0 : List (S25)) (r : List (S25)) (w : World) (hs0 : Kd.V k25 25 w w.heap.size (fun k_ => P0_ k_) (.slice A0 l0.length c0) l0) (h : invert_All.f l0 = some r) :
  Calls Tryz.prog 40 #[.slice A0 l0.length c0] w fun e w' => ∃ v0_ : Value,e = .returned (v0_) ∧ Kd.N k25 25 w' w.heap.size (fun k_ => (P0_ k_ ∨ w.heap.size ≤ k_)) v0_ r ∧ Below w.heap.size w w':=by
 unfold invert_All.f at h
 split at h
 ·rename_i hl
  obtain rfl:=Option.some.inj h
  exact callsIn_wide.1 (all_in w P0_ A0 c0 l0 (by omega) (Kd.V_at hs0).2.2)
 ·cases h
end Go.Proofs.YthhohbidjhcjeaaGreatDoor.Q
namespace Go.Proofs.YthhohbidjhcjeaaGreatDoor.H
open Go.RowKit Go.Proofs.YthhohbidjhcjeaaGreatDoorW.PrintWords Go.Proofs.YthhohbidjhcjeaaGreatDoorW.PrintLast Go.Proofs.YthhohbidjhcjeaaGreatDoorW.PrintMore
open Go.Proofs.YthhohbidjhcjeaaGreatDoor.Q

theorem z_FK (w : World) (B : Nat → Prop) (x : S25) (h5 : x.f5 = []) (h6 : x.f6 = []) : Kd.FK k25 w B x [.int .i64 x.f0,.string x.f1,.string x.f2,.string x.f3,.int .i64 x.f4,.slice none 0 0,.slice none 0 0]:=by
 obtain ⟨x0,x1,x2,x3,x4,x5,x6⟩:=x
 simp only at h5 h6
 subst h5 h6
 exact k25_mkF w B ⟨x0,x1,x2,x3,x4,[],[]⟩ (Nat.le_refl _) (Kd.F_nil _ _ _) (Nat.le_refl _) (Kd.F_nil _ _ _)

/-- Two patches in a literal. -/
theorem lit2 (w : World) (x y : S25) (c d : List Value) (hx : Kd.FK k25 w (fun _ => False) x c) (hy : Kd.FK k25 w (fun _ => False) y d) :
  Kd.V k25 25 (w.alloc (.cells (c ++ d).toArray 25)) (w.alloc (.cells (c ++ d).toArray 25)).heap.size (fun k_ => w.heap.size ≤ k_) (.slice (some ⟨w.heap.size,0,none⟩) 2 2) [x,y]:=by
 have hr : Reps (fun x c => Kd.FK k25 w (fun _ => False) x c) k25.sz [x,y] (([] ++ c) ++ d):=((Reps.none _ _).snoc hx (Kd.FK_raw hx).2.1).snoc hy (Kd.FK_raw hy).2.1
 have ho : Kd.NN k25 25 (w.alloc (.cells (c ++ d).toArray 25)) w.heap.size (fun _ => False) (.slice (some ⟨w.heap.size,0,none⟩) 2 2) [x,y] :=
  OwnRow.lit w w.heap.size (hr.imp_ (fun _ _ h => Kd.FK_below h (below_alloc (Below.refl _ _) _))) (Nat.le_refl _) (by simp)
 exact Kd.V_mono (Kd.N_V (Kd.NN_N ho (fun _ h => h.elim))) (fun k hk => hk.elim (fun h => h.elim) id)

set_option maxRecDepth 100000 in
set_option maxHeartbeats 2000000 in
theorem head_calls (w : World) : Calls Tryz.prog 38 #[] w fun e w' => e = .returned (.bool true) ∧ Below w.heap.size w w':=by
 go_enter Tryz.func38,Tryz.ntmps38
 go_wp2_with (fail)
 refine (inv_add 1 2 (by omega) (by omega) (idx_opp 1 (by omega) (by omega)) _ _ _ _ _ _ _ _ _ _ _).mono ?_
 rintro e w1 ⟨rfl,hb1⟩
 go_wp2_with (fail)
 refine (inv10 _ _ _ _ _ _ _ _ _ _ _).mono ?_
 rintro e w2 ⟨rfl,hb2⟩
 go_wp2_with (fail)
 refine (invert_All.calls (fun k_ => w2.heap.size + 1 ≤ k_) _ _ [⟨3,⟨#[120]⟩,⟨#[]⟩,⟨#[]⟩,0,[],[]⟩,⟨9,⟨#[121]⟩,⟨#[122]⟩,⟨#[]⟩,0,[],[]⟩] _ _ (by have:=lit2 (w2.alloc (.cells #[.int .i64 10,.string ⟨#[98]⟩,.string ⟨#[97]⟩,.string ⟨#[]⟩,.int .i64 0,.slice none 0 0,.slice none 0 0] 25)) ⟨3,⟨#[120]⟩,⟨#[]⟩,⟨#[]⟩,0,[],[]⟩ ⟨9,⟨#[121]⟩,⟨#[122]⟩,⟨#[]⟩,0,[],[]⟩ _ _ (z_FK _ _ _ rfl rfl) (z_FK _ _ _ rfl rfl); simpa using this) rfl).mono ?_
 rintro e w3 ⟨v,rfl,hN,hb3⟩
 have hN' : Kd.N k25 25 w3 _ _ v [⟨9,⟨#[121]⟩,⟨#[]⟩,⟨#[122]⟩,0,[],[]⟩,⟨4,⟨#[120]⟩,⟨#[]⟩,⟨#[]⟩,0,[],[]⟩]:=hN
 obtain ⟨Av,cv,rfl,hcv,hCv⟩:=Kd.N_reads hN'
 obtain ⟨ad,_,_,_,_,rfl,_,_,_,z03,_⟩:=at_T25 hCv 0 (by omega) (by simp)
 obtain ⟨ad',_,_,_,_,e',z10,_⟩:=at_T25 hCv 1 (by omega) (by simp)
 cases e'
 have y03 : w3.cell? ⟨ad.block,ad.off + 3,none⟩ = some (.string ⟨#[122]⟩):=by simpa [Addr.add,rd_T25] using z03
 have y10 : w3.cell? ⟨ad.block,ad.off + 7,none⟩ = some (.int .i64 4):=by simpa [Addr.add,rd_T25] using z10
 clear hN hN' z03 z10 hcv
 have hB12 : Below w.heap.size w w2:=(hb1.alloc hb1.size _).trans (hb2.mono (by have:=hb1.size; simp; omega))
 have hs1 : w1.heap.size < w2.heap.size:=by have:=hb2.size; simp at this; omega
 have hs2 : w2.heap.size + 1 < w3.heap.size:=by have:=hb3.size; simp at this; omega
 have a0 : w3.cell? ⟨w1.heap.size,0,none⟩ = some (.int .i64 2):=by
  refine pw_cell_below hb3 ?_
  rw [World.cell?_alloc_lt _ _ _ (by simp; omega),World.cell?_alloc_lt _ _ _ (by simpa using hs1)]
  refine pw_cell_below hb2 ?_
  exact blk_cell (heap_alloc_new w1 _) 0
 have a1 : w3.cell? ⟨w1.heap.size,1,none⟩ = some (.string ⟨#[97]⟩):=by
  refine pw_cell_below hb3 ?_
  rw [World.cell?_alloc_lt _ _ _ (by simp; omega),World.cell?_alloc_lt _ _ _ (by simpa using hs1)]
  refine pw_cell_below hb2 ?_
  exact blk_cell (heap_alloc_new w1 _) 1
 have b1 : w3.cell? ⟨w2.heap.size,1,none⟩ = some (.string ⟨#[98]⟩):=by
  refine pw_cell_below hb3 ?_
  rw [World.cell?_alloc_lt _ _ _ (by simp)]
  exact blk_cell (heap_alloc_new w2 _) 1
 have b2 : w3.cell? ⟨w2.heap.size,2,none⟩ = some (.string ⟨#[97]⟩):=by
  refine pw_cell_below hb3 ?_
  rw [World.cell?_alloc_lt _ _ _ (by simp)]
  exact blk_cell (heap_alloc_new w2 _) 2
 have hB3 : Below w.heap.size w w3:=((hB12.alloc hB12.size _).alloc (by have:=hB12.size; simp; omega) _).trans (hb3.mono (by have:=hB12.size; simp; omega))
 clear hb1 hb2 hb3 hB12 hCv
 dsimp only [List.length_cons,List.length_nil]
 go_wp2_with (fail)
 refine (inv_no 11 (by omega) _ _ _ _ _ _ _ _ _ _ _).mono ?_
 rintro e w4 ⟨rfl,hb4⟩
 have hfi : ∀ W,(Instr.field 25 (.agg #[.int .i64 0,.string ⟨#[]⟩,.string ⟨#[]⟩,.string ⟨#[]⟩,.int .i64 0,.slice none 0 0,.slice none 0 0]) 1).run Tryz.prog W = .ok (.string ⟨#[]⟩) W:=fun _ => by kernel_rfl
 go_wp2
 go_ret
 exact ⟨rfl,hB3.trans (hb4.mono hB3.size)⟩
end Go.Proofs.YthhohbidjhcjeaaGreatDoor.H

namespace Go.Proofs.YthhohbidjhcjeaaGreatDoor.Q
open Go.RowKit Go.Proofs.YthhohbidjhcjeaaGreatDoorW.PrintWords
/-! ### in the printed form -/
def counterpanelaw09_head.f : Option (Bool):=some true
theorem counterpanelaw09_head.calls (r : Bool) (w : World) (h : counterpanelaw09_head.f = some r) :
  Calls Tryz.prog 38 #[] w fun e w' => e = .returned (.bool r) ∧ Below w.heap.size w w':=by
 obtain rfl:=Option.some.inj h
 exact H.head_calls w
end Go.Proofs.YthhohbidjhcjeaaGreatDoor.Q
namespace Go.Proofs.YthhohbidjhcjeaaGreatDoor.H
open Go.RowKit Go.Shelf Go.Proofs.YthhohbidjhcjeaaGreatDoorW.PrintWords Go.Proofs.YthhohbidjhcjeaaGreatDoorW.PrintLast Go.Proofs.YthhohbidjhcjeaaGreatDoorW.PrintMore
open Go.Proofs.YthhohbidjhcjeaaGreatDoor.Q Go.Proofs.YthhohbidjhcjeaaGreatDoor.Pl
set_option linter.unusedVariables false
set_option linter.unusedSimpArgs false
/-- A patch's lines, known in a world. -/
structure Rd (w : World) (x : S25) (A5 : Option Addr) (c5 : Nat) (A6 : Option Addr) (c6 : Nat) : Prop where
 g5 : Kd.C Kd.string w A5 x.f5.length x.f5
 l5 : x.f5.length ≤ c5
 g6 : Kd.C Kd.string w A6 x.f6.length x.f6
 l6 : x.f6.length ≤ c6
theorem Rd.below {w W : World} {x : S25} {A5 : Option Addr} {c5 : Nat} {A6 : Option Addr} {c6 : Nat} (h : Rd w x A5 c5 A6 c6) (hb : Below w.heap.size w W) : Rd W x A5 c5 A6 c6:=⟨Kd.C_below h.g5 hb,h.l5,Kd.C_below h.g6 hb,h.l6⟩
theorem two_steps {u T v : World} (hT : Below u.heap.size u T) (hb : Below T.heap.size T v) : Below u.heap.size u v:=hT.trans (hb.mono hT.size)
theorem box1 (u : World) (o o' : Obj) : ((u.alloc o).alloc o').heap[u.heap.size]? = some o:=blk_alloc (blk_new u o) o'
theorem box2 (u : World) (o o' : Obj) : ((u.alloc o).alloc o').heap[u.heap.size + 1]? = some o':=by
 have h:=blk_new (u.alloc o) o'
 simpa using h
/-- Are any things too many, asked at any world that grew. -/
theorem G_at (l : List S41) (A : Option Addr) (c : Nat) (w : World) (hr : Kd.C k41 w A l.length l) (hc : l.length ≤ c) (hn : l.length ≤ 140737488355328) (hx : ∀ x ∈ l,x.f2.length ≤ 140737488355328) :
  ∃ r,(r = false → l.length < 800 ∧ ∀ x ∈ l,Small x) ∧ ∀ U,Below w.heap.size w U → Calls Tryz.prog 21 #[.slice A l.length c] U fun e w' => e = .returned (.bool r) ∧ Below U.heap.size U w':=by
 obtain ⟨r,hr',h⟩:=great7 l hn hx
 obtain ⟨k,hk⟩:=hr'.rounds
 exact ⟨r,h,fun U hU => counterpanelaw07_Great.calls k A c l r U (Kd.C_below hr hU) hc hk⟩
theorem K_at (p : S25) (A5 : Option Addr) (a5 : Nat) (A6 : Option Addr) (a6 : Nat) (w : World) (hp : Okp p) (rp : Rd w p A5 a5 A6 a6) :
  ∃ r,(r = false → SmallP p) ∧ ∀ U,Below w.heap.size w U → Calls Tryz.prog 22 #[.agg #[.int .i64 p.f0,.string p.f1,.string p.f2,.string p.f3,.int .i64 p.f4,.slice A5 p.f5.length a5,.slice A6 p.f6.length a6]] U fun e w' => e = .returned (.bool r) ∧ Below U.heap.size U w':=by
 obtain ⟨r,hr',h⟩:=great8 p hp.ok
 obtain ⟨k,hk⟩:=hr'.rounds
 exact ⟨r,h,fun U hU => counterpanelaw08_Great.calls k _ _ _ _ _ _ _ _ _ _ _ r U (Kd.C_below rp.g5 hU) rp.l5 (Kd.C_below rp.g6 hU) rp.l6 hk⟩
theorem inv_rd (x : S25) (A5 : Option Addr) (c5 : Nat) (A6 : Option Addr) (c6 : Nat) (w : World) (rx : Rd w x A5 c5 A6 c6) :
  Calls Tryz.prog 39 #[.agg #[.int .i64 x.f0,.string x.f1,.string x.f2,.string x.f3,.int .i64 x.f4,.slice A5 x.f5.length c5,.slice A6 x.f6.length c6]] w fun e w' =>
   ∃ B5 d5 B6 d6,e = .returned (.agg #[.int .i64 (invS x).f0,.string (invS x).f1,.string (invS x).f2,.string (invS x).f3,.int .i64 (invS x).f4,.slice B5 (invS x).f5.length d5,.slice B6 (invS x).f6.length d6]) ∧ Rd w' (invS x) B5 d5 B6 d6 ∧ Below w.heap.size w w':=by
 refine (inv_cells x A5 c5 A6 c6 w (fun k => k < w.heap.size) rx.l5 (Kd.C_F Kd.heap_string rx.g5) rx.l6 (Kd.C_F Kd.heap_string rx.g6)).mono ?_
 rintro e w' ⟨B5,d5,B6,d6,rfl,m5,e5,m6,e6,hb⟩
 exact ⟨B5,d5,B6,d6,rfl,⟨Kd.F_now e5,m5,Kd.F_now e6,m6⟩,hb⟩
/-- Apply, asked at any world that grew: the error is told, and of no error the row. -/
theorem A_at (l : List S41) (A : Option Addr) (c : Nat) (p : S25) (A5 : Option Addr) (a5 : Nat) (A6 : Option Addr) (a6 : Nat) (w : World) (hr : Kd.C k41 w A l.length l) (rp : Rd w p A5 a5 A6 a6) (hf : Fit l) (hp : FitP p) :
  ∀ U,Below w.heap.size w U → Calls Tryz.prog 23 #[.slice A l.length c,.agg #[.int .i64 p.f0,.string p.f1,.string p.f2,.string p.f3,.int .i64 p.f4,.slice A5 p.f5.length a5,.slice A6 p.f6.length a6]] U fun e w' =>
   ∃ S,e = .returned (.tuple #[S,.int .i64 (applyE l p)]) ∧ Below U.heap.size U w' ∧ (applyE l p = 0 → ∃ A c,S = .slice A (doL l p).length c ∧ (doL l p).length ≤ c ∧ Kd.C k41 w' A (doL l p).length (doL l p)) ∧ (applyE l p ≠ 0 → S = .slice none 0 0):=by
 intro U hU
 refine (apply_at l A c p A5 a5 A6 a6 U (Kd.C_below hr hU) (Kd.C_below rp.g5 hU) rp.l5 (Kd.C_below rp.g6 hU) rp.l6 hf hp).mono ?_
 rintro e w' ⟨hb,hi⟩
 by_cases hE : applyE l p = 0
 ·rw [if_pos hE] at hi
  obtain ⟨A',c',rfl,hl,hC⟩:=hi
  exact ⟨_,by rw [hE],hb,fun _ => ⟨A',c',rfl,hl,hC⟩,fun h => absurd hE h⟩
 ·rw [if_neg hE] at hi
  exact ⟨_,hi,hb,fun h => absurd h hE,fun _ => rfl⟩
end Go.Proofs.YthhohbidjhcjeaaGreatDoor.H
namespace Go.Proofs.YthhohbidjhcjeaaGreatDoor.H
open Go.RowKit Go.Shelf Go.Proofs.YthhohbidjhcjeaaGreatDoorW.PrintWords Go.Proofs.YthhohbidjhcjeaaGreatDoorW.PrintLast Go.Proofs.YthhohbidjhcjeaaGreatDoorW.PrintMore
open Go.Proofs.YthhohbidjhcjeaaGreatDoor.Q Go.Proofs.YthhohbidjhcjeaaGreatDoor.Pl
set_option linter.unusedVariables false
set_option linter.unusedSimpArgs false
/-- A line whose runs are few and short. -/
structure Lr (s : ByteArray) : Prop where
 n : (runs s.data.toList).length ≤ 4000
 r : ∀ r ∈ runs s.data.toList,r.length ≤ 4000
theorem runs_le : ∀ (L : List (List UInt8)) (k : Nat),(∀ r ∈ L,r.length ≤ k) → L.flatten.length ≤ L.length * k
 | [],k,h => by simp
 | r :: L,k,h => by
  rw [List.flatten_cons,List.length_append,List.length_cons,Nat.add_mul,Nat.one_mul]
  have:=runs_le L k (fun x hx => h x (List.mem_cons_of_mem _ hx))
  have:=h r (List.mem_cons_self ..)
  omega
theorem Lr.size {s : ByteArray} (h : Lr s) : s.size ≤ 16000000:=by
 have h1:=runs_le (runs s.data.toList) 4000 h.r
 rw [runs_flat,dlen] at h1
 have h2:=h.n
 omega
theorem runs_len : ∀ (L : List (List UInt8)),(∀ r ∈ L,r ≠ []) → L.length ≤ L.flatten.length ∧ ∀ r ∈ L,r.length ≤ L.flatten.length
 | [],h => by simp
 | r :: L,h => by
  obtain ⟨h1,h2⟩:=runs_len L (fun x hx => h x (List.mem_cons_of_mem _ hx))
  rw [List.flatten_cons,List.length_append,List.length_cons]
  have h3 : 0 < r.length:=List.length_pos_iff.2 (h r (List.mem_cons_self ..))
  refine ⟨by omega,fun x hx => ?_⟩
  rcases List.mem_cons.1 hx with e | hx
  ·subst e; omega
  ·have:=h2 x hx; omega
theorem lr_small {s : ByteArray} (h : s.size < 4000) : Lr s:=by
 have h1:=runs_len (runs s.data.toList) (fun r hr => runs_ne _ r hr)
 rw [runs_flat,dlen] at h1
 exact ⟨by omega,fun r hr => by have:=h1.2 r hr; omega⟩
theorem lr_repl {s fr to_ : ByteArray} (h : Lr s) (hf : tokenB fr = true) (ht : tokenB to_ = true) (hs : to_.size < 4000) : Lr (replV s fr to_):=by
 have hr:=repl_runs hf ht s
 refine ⟨by rw [hr,List.length_map]; exact h.n,fun r hm => ?_⟩
 rw [hr] at hm
 obtain ⟨r',hr',rfl⟩:=List.mem_map.1 hm
 unfold repR
 split
 ·rw [dlen]; omega
 ·exact h.r r' hr'
/-- Things of which the lines are at most so many, and theirs. -/
structure Bnd (b : Nat) (l : List S41) : Prop where
 s : ∀ x ∈ l,x.f0.size ≤ 1000000000000
 n : ∀ x ∈ l,x.f2.length ≤ b
 r : ∀ x ∈ l,∀ s ∈ x.f2,Lr s
theorem Bnd.fit {b : Nat} {l : List S41} (h : Bnd b l) (hb : b ≤ 1000000000) : Fit l :=
 ⟨h.s,fun x hx => Nat.le_trans (h.n x hx) hb,fun x hx s hs => Nat.le_trans (h.r x hx s hs).size (by decide)⟩
theorem Bnd.mono {b c : Nat} {l : List S41} (h : Bnd b l) (hb : b ≤ c) : Bnd c l:=⟨h.s,fun x hx => Nat.le_trans (h.n x hx) hb,h.r⟩
theorem small_bnd {l : List S41} (h : ∀ x ∈ l,Small x) : Bnd 4000 l :=
 ⟨fun x hx => by have:=(h x hx).p; omega,fun x hx => by have:=(h x hx).n; omega,fun x hx s hs => lr_small ((h x hx).s s hs)⟩
/-- A patch each part of which is small. -/
structure SmallQ (p : S25) : Prop where
 f1 : p.f1.size < 4000
 f2 : p.f2.size < 4000
 f3 : p.f3.size < 4000
 n5 : p.f5.length < 4000
 n6 : p.f6.length < 4000
 s5 : ∀ t ∈ p.f5,t.size < 4000
 s6 : ∀ t ∈ p.f6,t.size < 4000
theorem smallq {p : S25} (h : SmallP p) : SmallQ p:=⟨h.f1,h.f2,h.f3,by have:=h.n; omega,by have:=h.n; omega,h.s5,h.s6⟩
theorem SmallQ.ok {p : S25} (h : SmallQ p) : Okp p :=
 ⟨⟨by have:=h.n5; omega,by have:=h.n6; omega⟩,by have:=h.f1; omega,by have:=h.f2; omega,by have:=h.f3; omega⟩
theorem SmallQ.fit {p : S25} (h : SmallQ p) : FitP p:=⟨h.ok,by have:=h.n5; omega,by have:=h.n6; omega,by have:=h.f2; omega⟩
theorem smallq_z : SmallQ z25:=⟨by decide,by decide,by decide,by decide,by decide,(fun t ht => by cases ht),(fun t ht => by cases ht)⟩
theorem SmallQ.inv {p : S25} (h : SmallQ p) : SmallQ (invS p):=by
 unfold invS
 split
 ·exact smallq_z
 split
 ·exact ⟨h.f1,h.f2,h.f3,h.n6,h.n5,h.s6,h.s5⟩
 split
 ·exact ⟨h.f1,h.f3,h.f2,h.n5,h.n6,h.s5,h.s6⟩
 split
 ·exact ⟨h.f1,h.f3,h.f2,h.n5,h.n6,h.s5,h.s6⟩
 split
 ·exact ⟨h.f2,h.f1,h.f3,h.n5,h.n6,h.s5,h.s6⟩
 ·exact ⟨h.f1,h.f2,h.f3,h.n5,h.n6,h.s5,h.s6⟩
theorem change_bnd {b : Nat} {x y : S41} {p : S25} (hn : x.f2.length ≤ b) (hr : ∀ s ∈ x.f2,Lr s) (hp : SmallQ p) (hq : primB p = true) (h : changeV x p = some y) : y.f2.length ≤ b + 4000 ∧ ∀ s ∈ y.f2,Lr s:=by
 unfold changeV at h
 split at h
 ·obtain ⟨M,hM,rfl⟩:=Option.map_eq_some_iff.mp h
  unfold hunkV at hM
  split at hM
  ·cases hM
   refine ⟨?_,fun s hs => ?_⟩
   ·show (x.f2.take p.f4.toNat ++ p.f6 ++ x.f2.drop (p.f4.toNat + p.f5.length)).length ≤ b + 4000
    simp only [List.length_append,List.length_take,List.length_drop]
    have:=hp.n6
    omega
   ·replace hs : s ∈ x.f2.take p.f4.toNat ++ p.f6 ++ x.f2.drop (p.f4.toNat + p.f5.length):=hs
    rcases List.mem_append.1 hs with hs | hs
    ·rcases List.mem_append.1 hs with hs | hs
     ·exact hr s (List.mem_of_mem_take hs)
     ·exact lr_small (hp.s6 s hs)
    ·exact hr s (List.mem_of_mem_drop hs)
  ·cases hM
 ·split at h
  ·rename_i h8
   obtain ⟨M,hM,rfl⟩:=Option.map_eq_some_iff.mp h
   unfold tokV at hM
   split at hM
   ·cases hM
   ·cases hM
    refine ⟨?_,fun s hs => ?_⟩
    ·show (x.f2.map _).length ≤ b + 4000
     rw [List.length_map]
     omega
    ·replace hs : s ∈ x.f2.map (fun s => replV s p.f3 p.f2):=hs
     obtain ⟨t,ht,rfl⟩:=List.mem_map.1 hs
     exact lr_repl (hr t ht) (prim_token hq h8).1 (prim_token hq h8).2.1 hp.f2
  ·split at h
   ·cases h
    exact ⟨by show x.f2.length ≤ b + 4000; omega,hr⟩
   ·cases h
/-- One small patch more. -/
theorem bnd_do {b : Nat} {l : List S41} {p : S25} (h : Bnd b l) (hp : SmallQ p) (ha : applyE l p = 0) : Bnd (b + 4000) (doL l p):=by
 have hT:=apply_tree ha
 obtain ⟨_,hq,_⟩:=apply_zero.mp ha
 have key : ∀ x ∈ doL l p,x.f2.length ≤ b + 4000 ∧ ∀ s ∈ x.f2,Lr s:=by
  have old : ∀ x ∈ l,x.f2.length ≤ b + 4000 ∧ ∀ s ∈ x.f2,Lr s:=fun x hx => ⟨by have:=h.n x hx; omega,h.r x hx⟩
  have hz : (z41.f2).length ≤ b + 4000 ∧ ∀ s ∈ z41.f2,Lr s:=⟨by show ([] : List ByteArray).length ≤ _; simp,fun s hs => by cases hs⟩
  intro x hx
  unfold doL at hx
  split at hx
  ·unfold moveL at hx
   obtain ⟨z,hz,rfl⟩:=List.mem_map.1 (sort_mem.1 hx)
   exact old z hz
  ·split at hx
   ·unfold changeL setL at hx
    rcases List.mem_or_eq_of_mem_set hx with hx | hx
    ·exact old x hx
    ·cases hc : changeV (thingAt l p.f1) p with
     | none => rw [hc] at hx; rw [hx]; exact hz
     | some y =>
      rw [hc] at hx
      rw [hx]
      unfold thingAt at hc
      cases hf : findV l p.f1 with
      | none =>
       rw [hf] at hc
       exact change_bnd (x:=z41) (by show ([] : List ByteArray).length ≤ b; simp) (fun s hs => by cases hs) hp hq hc
      | some z =>
       rw [hf] at hc
       exact change_bnd (x:=z) (h.n z (find_mem hf).1) (h.r z (find_mem hf).1) hp hq hc
   ·split at hx
    ·unfold insL at hx
     rcases List.mem_append.1 hx with hx | hx
     ·exact old x (List.mem_of_mem_take hx)
     ·rcases List.mem_cons.1 hx with hx | hx
      ·rw [hx]
       exact ⟨by show ([] : List ByteArray).length ≤ _; simp,fun s hs => by cases hs⟩
      ·exact old x (List.mem_of_mem_drop hx)
    ·unfold delL at hx
     exact old x (List.mem_of_mem_eraseIdx hx)
 refine ⟨fun x hx => ?_,fun x hx => (key x hx).1,fun x hx => (key x hx).2⟩
 have:=right_size (thing_path (hT.t x hx))
 omega
theorem bnd_run : ∀ (ps : List S25) (b : Nat) (l k : List S41),Bnd b l → (∀ p ∈ ps,SmallQ p) → runV l ps = some k → Bnd (b + 4000 * ps.length) k
 | [],b,l,k,hb,hp,h => by rw [← Option.some.inj h]; exact hb
 | p :: ps,b,l,k,hb,hp,h => by
  have h' : (if applyE l p = 0 then runV (doL l p) ps else none) = some k:=h
  split at h'
  ·rename_i h0
   have:=bnd_run ps (b + 4000) _ k (bnd_do hb (hp p (List.mem_cons_self ..)) h0) (fun q hq => hp q (List.mem_cons_of_mem _ hq)) h'
   refine this.mono ?_
   rw [List.length_cons]
   omega
  ·cases h'
/-- What several make, where they can be done; else an error. -/
theorem allE_or (l : List S41) (ps : List S25) : (∃ k,treeB l = true ∧ runV l ps = some k ∧ allE l ps = (k,0,0)) ∨ (∃ e j,e ≠ 0 ∧ allE l ps = ([],e,j) ∧ (treeB l = true → runV l ps = none)):=by
 unfold allE
 by_cases ht : treeB l = true
 ·rw [if_pos ht]
  rcases all_run ps l 0 with ⟨k,h1,h2⟩ | ⟨e,j,h1,h2,h3⟩
  ·exact .inl ⟨k,ht,h1,h2⟩
  ·exact .inr ⟨e,j,h2,h3,fun _ => h1⟩
 ·rw [if_neg ht]
  exact .inr ⟨1,0,by decide,rfl,fun h => absurd h ht⟩
theorem allE_run {l k : List S41} {ps : List S25} (ht : treeB l = true) (h : runV l ps = some k) : allE l ps = (k,0,0):=by
 rcases allE_or l ps with ⟨k',_,h1,h2⟩ | ⟨e,j,_,_,h3⟩
 ·rw [h] at h1; rw [h2,Option.some.inj h1]
 ·rw [h3 ht] at h; cases h
end Go.Proofs.YthhohbidjhcjeaaGreatDoor.H
namespace Go.Proofs.YthhohbidjhcjeaaGreatDoor.H
open Go.RowKit Go.Shelf Go.Proofs.YthhohbidjhcjeaaGreatDoorW.PrintWords Go.Proofs.YthhohbidjhcjeaaGreatDoorW.PrintLast Go.Proofs.YthhohbidjhcjeaaGreatDoorW.PrintMore
open Go.Proofs.YthhohbidjhcjeaaGreatDoor.Q Go.Proofs.YthhohbidjhcjeaaGreatDoor.Pl
set_option linter.unusedVariables false
set_option linter.unusedSimpArgs false
set_option maxHeartbeats 4000000 in
set_option maxRecDepth 1000000 in
theorem GL_at (ps : List S25) (P : Option Addr) (d : Nat) (w : World) (hps : Kd.C k25 w P ps.length ps) (hd : ps.length ≤ d) (hm : ps.length ≤ 1256584717458) (ho : ∀ p ∈ ps,Okp p) :
  ∃ r,(r = false → ps.length ≤ 60 ∧ ∀ p ∈ ps,SmallP p) ∧ ∀ U,Below w.heap.size w U → Calls Tryz.prog 28 #[.slice P ps.length d] U fun e w' => e = .returned (.bool r) ∧ Below U.heap.size U w':=by
 obtain ⟨f,hf⟩ : ∃ f : S25 → Bool,∀ p,Okp p → Ev (fun k => counterpanelaw08_Great.f k p.f0 p.f1 p.f2 p.f3 p.f4 p.f5 p.f6) (f p) ∧ (f p = false → SmallP p):=by
  classical
  exact ⟨fun p => if h : Okp p then (great8 p h.ok).choose else false,fun p hp => by simp only [dif_pos hp]; exact (great8 p hp.ok).choose_spec⟩
 refine ⟨decide (60 < ps.length) || ps.any f,fun h => ?_,fun U hU => ?_⟩
 ·rw [Bool.or_eq_false_iff,decide_eq_false_iff_not,List.any_eq_false] at h
  exact ⟨by omega,fun p hp => (hf p (ho p hp)).2 (by simpa using h.2 p hp)⟩
 have HPS:=Aside0.mk (Kd.C_below hps hU)
 obtain ⟨n,hN⟩ : ∃ n,ps.length = n:=⟨_,rfl⟩
 rw [hN] at hm HPS ⊢
 have HN:=Aside0.mk hN
 have HO:=Aside0.mk ho
 have HF:=Aside0.mk hf
 clear hps hN ho hf hd
 by_cases h60 : 60 < n
 ·have c1 : decide ((n : Int) > 60) = true:=decide_eq_true (by omega)
  have hr : (decide (60 < n) || ps.any f) = true:=by rw [decide_eq_true h60]; rfl
  rw [hr]
  clear hr h60
  go_enter Tryz.func28,Tryz.ntmps28
  go_wp2
  go_ret
  exact ⟨rfl,Below.refl _ _⟩
 ·have c1 : decide ((n : Int) > 60) = false:=decide_eq_false (by omega)
  have hr : Aside0 ((decide (60 < n) || ps.any f) = ps.any f):=⟨by rw [decide_eq_false h60]; rfl⟩
  obtain ⟨r,hrr⟩ : ∃ r,(decide (60 < n) || ps.any f) = r:=⟨_,rfl⟩
  rw [hrr] at hr ⊢
  clear hrr
  have hm' : n ≤ 60:=by omega
  clear h60 hm
  go_enter Tryz.func28,Tryz.ntmps28
  go_wp2
  go_loopg [3] n (fun kq u3 w' => ∃ (i : Nat),u3 = .int .i64 (i : Int) ∧ Aside0 (i + kq = n) ∧ Aside0 ((ps.drop i).any f = ps.any f) ∧ Aside0 (Below U.heap.size U w'))
  case atStart => exact ⟨0,rfl,⟨by omega⟩,⟨rfl⟩,⟨Below.refl _ _⟩⟩
  case round =>
   obtain ⟨i,rfl,hk,hany,hB⟩:=hrel
   by_cases hi : i < n
   ·have hil : i < ps.length:=by rw [HN.out]; exact hi
    have hcmp : decide ((i : Int) < (n : Int)) = true:=decide_eq_true (by omega)
    have i0 : (0 : Int) ≤ (i : Int):=by omega
    have i1 : (i : Int) < (n : Int):=by omega
    have hwi : IntKind.i64.wrap ((i : Int) + 1) = (i : Int) + 1:=wrap_small _ (by omega) (by omega)
    obtain ⟨ad,A5,c5,A6,c6,hP,x0,x1,x2,x3,x4,x5,x6,l5,g5,l6,g6⟩:=at_T25 (Kd.C_below HPS.out hB.out) (i : Int) i0 i1
    have hrd : rd_T25 ps (i : Int) = ps[i]:=by unfold rd_T25; rw [Int.toNat_natCast,List.getD_eq_getElem?_getD,List.getElem?_eq_getElem hil]; rfl
    have hdrop : ps.drop i = ps[i] :: ps.drop (i + 1):=List.drop_eq_getElem_cons hil
    rw [hrd] at x0 x1 x2 x3 x4 x5 x6 l5 g5 l6 g6
    rw [Int.toNat_natCast] at x0 x1 x2 x3 x4 x5 x6
    obtain ⟨p,hp⟩ : ∃ p,ps[i] = p:=⟨_,rfl⟩
    have hpo : Okp p:=by rw [← hp]; exact HO.out _ (List.getElem_mem hil)
    rw [hp] at x0 x1 x2 x3 x4 x5 x6 l5 g5 l6 g6 hdrop
    subst hP
    obtain ⟨k,hkk⟩:=(HF.out p hpo).1.rounds
    have hC:=counterpanelaw08_Great.calls k _ _ _ _ _ A5 c5 _ A6 c6 _ (f p) wr g5 l5 g6 l6 hkk
    replace hC:=Aside0.mk hC
    replace hdrop:=Aside0.mk hdrop
    clear hp hrd hkk hpo l5 g5 l6 g6
    obtain ⟨b,hb⟩ : ∃ b,f p = b:=⟨_,rfl⟩
    rw [hb] at hC
    replace hb:=Aside0.mk hb
    cases b with
    | true =>
     go_wp2_with (go_at_call 22; refine hC.out.mono ?_; rintro e w4 ⟨rfl,hb4⟩; replace hb4:=Aside0.mk hb4)
     go_ret
     exact ⟨by rw [hr.out,← hany.out,hdrop.out,List.any_cons,hb.out]; rfl,hB.out.trans (hb4.out.mono hB.out.size)⟩
    | false =>
     go_wp2_with (go_at_call 22; refine hC.out.mono ?_; rintro e w4 ⟨rfl,hb4⟩; replace hb4:=Aside0.mk hb4)
     go_roundg (n - (i + 1))
     case measure => have:=hk.out; omega
     case rel => exact ⟨i + 1,by simp,⟨by omega⟩,⟨by rw [← hany.out,hdrop.out,List.any_cons,hb.out]; rfl⟩,⟨hB.out.trans (hb4.out.mono hB.out.size)⟩⟩
   ·have hcmp : decide ((i : Int) < (n : Int)) = false:=decide_eq_false (by omega)
    have hd : Aside0 (ps.drop i = []):=⟨List.drop_eq_nil_of_le (by have:=HN.out; omega)⟩
    go_wp2
    go_ret
    exact ⟨by rw [hr.out,← hany.out,hd.out]; rfl,hB.out⟩
end Go.Proofs.YthhohbidjhcjeaaGreatDoor.H
namespace Go.Proofs.YthhohbidjhcjeaaGreatDoor.H
open Go.RowKit Go.Shelf Go.Proofs.YthhohbidjhcjeaaGreatDoorW.PrintWords Go.Proofs.YthhohbidjhcjeaaGreatDoorW.PrintLast Go.Proofs.YthhohbidjhcjeaaGreatDoorW.PrintMore
open Go.Proofs.YthhohbidjhcjeaaGreatDoor.Q Go.Proofs.YthhohbidjhcjeaaGreatDoor.Pl
set_option linter.unusedVariables false
set_option linter.unusedSimpArgs false
theorem same05E (a : List ByteArray) (hn : a.length ≤ 140737488355328) : ∀ (d i : Nat),i + d = a.length → Ev (fun k => counterpaneref05_Same.l0 k a a (i : Int)) true:=by
 intro d
 induction d with
 | zero =>
  intro i hi
  refine Ev.step (f:=fun _ => some true) (fun k => ?_) (Ev.now _)
  simp only [counterpaneref05_Same.l0]
  rw [if_neg (by omega)]
 | succ d ih =>
  intro i hi
  have h1 : i < a.length:=by omega
  refine Ev.step (f:=fun k => counterpaneref05_Same.l0 k a a ((i + 1 : Nat) : Int)) (fun k => ?_) (ih (i + 1) (by omega))
  simp only [counterpaneref05_Same.l0]
  rw [if_pos (by omega),if_pos (by omega),if_pos (by omega),if_pos trivial,wrap_1 h1 hn]
theorem same05_at (a : List ByteArray) (hn : a.length ≤ 140737488355328) (A : Option Addr) (c : Nat) (B : Option Addr) (d : Nat) (w : World) (h0 : Kd.string.C w A a.length a) (h1 : a.length ≤ c) (h2 : Kd.string.C w B a.length a) (h3 : a.length ≤ d) :
  Calls Tryz.prog 72 #[.slice A a.length c,.slice B a.length d] w fun e w' => e = .returned (.bool true) ∧ Below w.heap.size w w':=by
 obtain ⟨k,hk⟩:=(same05E a hn a.length 0 (by omega)).rounds
 have hf : counterpaneref05_Same.f k a a = some true:=by
  unfold counterpaneref05_Same.f
  rw [if_pos rfl]
  exact hk
 exact (counterpaneref05_Same.calls k A c a B d a true w h0 h1 h2 h3 hf).mono fun e w' h => ⟨h.1,h.2.below⟩

set_option maxHeartbeats 32000000 in
set_option maxRecDepth 1000000 in
theorem sameE_at (l : List S41) (hn : l.length ≤ 140737488355328) (hx : ∀ x ∈ l,x.f2.length ≤ 140737488355328) (A : Option Addr) (c : Nat) (B : Option Addr) (d : Nat) (w : World) (h0 : Kd.C k41 w A l.length l) (h1 : l.length ≤ c) (h2 : Kd.C k41 w B l.length l) (h3 : l.length ≤ d) :
  Calls Tryz.prog 27 #[.slice A l.length c,.slice B l.length d] w fun e w' => e = .returned (.bool true) ∧ Below w.heap.size w w':=by
 have HA:=Aside0.mk h0
 have HB:=Aside0.mk h2
 have HX:=Aside0.mk hx
 have HN:=Aside0.mk hn
 have B0 : Aside0 (Below w.heap.size w w):=⟨Below.refl _ _⟩
 clear h0 h1 h2 h3 hx
 go_enter Tryz.func27,Tryz.ntmps27
 go_wp2
 go_loopg [5] l.length (fun kx s5 wr => ∃ i : Nat,s5 = .int .i64 i ∧ i + kx = l.length ∧ Aside0 (Below w.heap.size w wr))
 case atStart => exact ⟨0,rfl,by omega,B0⟩
 case round =>
  clear B0
  obtain ⟨i,rfl,hi,B1⟩:=hrel
  by_cases hlt : i < l.length
  ·have hi0 : (0 : Int) ≤ (i : Int):=by omega
   have hi1 : (i : Int) < (l.length : Int):=by omega
   have hdb : decide ((i : Int) < (l.length : Int)) = true:=decide_eq_true hi1
   have hwi : IntKind.i64.wrap ((i : Int) + 1) = ((i + 1 : Nat) : Int):=by rw [wrap_small _ (by omega) (by omega)]; omega
   obtain ⟨ad,X,e,rfl,rx,x0,x1,x2,x3⟩:=ent_at (Kd.C_below HA.out B1.out) i hlt rfl
   obtain ⟨bd,Y,f,rfl,ry,y0,y1,y2,y3⟩:=ent_at (Kd.C_below HB.out B1.out) i hlt rfl
   obtain ⟨x,hxe⟩ : ∃ x,l.getD i z41 = x:=⟨_,rfl⟩
   rw [hxe] at rx x0 x1 x2 x3 ry y0 y1 y2 y3
   have hxm : x ∈ l:=by rw [← hxe,getD_get hlt]; exact List.getElem_mem hlt
   have hLn : Aside0 (∀ W,Below wr.heap.size wr W → Calls Tryz.prog 72 #[.slice X x.f2.length e,.slice Y x.f2.length f] W fun e w' => e = .returned (.bool true) ∧ Below W.heap.size W w') :=
    ⟨fun W hb => same05_at x.f2 (HX.out x hxm) X e Y f W (rx.later hb).g rx.l (ry.later hb).g ry.l⟩
   have ne0 : (x.f0.toList != x.f0.toList) = false:=by simp
   have ne3 : (x.f3.toList != x.f3.toList) = false:=by simp
   have ne1 : (x.f1 != x.f1) = false:=by simp
   replace x0:=Aside0.mk x0
   replace x1:=Aside0.mk x1
   replace x2:=Aside0.mk x2
   replace x3:=Aside0.mk x3
   replace y0:=Aside0.mk y0
   replace y1:=Aside0.mk y1
   replace y2:=Aside0.mk y2
   replace y3:=Aside0.mk y3
   clear rx ry hxe hxm
   go_upto_region 6 with (fail)
   refine wp_region_held_drew (S:=Below wr.drew.heap.size wr.drew) (by kernel_rfl) (Below.refl _ _) (fun hS => ?_)
   refine tkH (v:=?_) 0 (some 17) rfl rfl (by kernel_rfl) (by kernel_rfl) (fun _ _ _ h => h) (fun W' hSW => ?_) hS ?_
   rotate_left
   ·go_simp; (try with_reducible rfl)
   simp only [Act.put,List.setIfInBounds_toArray,List.set_cons_zero,List.set_cons_succ]
   refine tkH (v:=?_) 1 (some 18) rfl rfl (by kernel_rfl) (by kernel_rfl) (fun _ _ _ h => h) (fun W' hSW => ?_) hS ?_
   rotate_left
   ·go_simp; (try with_reducible rfl)
   simp only [Act.put,List.setIfInBounds_toArray,List.set_cons_zero,List.set_cons_succ]
   refine tkH (v:=?_) 2 (some 19) rfl rfl (by kernel_rfl) (by kernel_rfl) (fun _ _ _ h => h) (fun W' hSW => ?_) hS ?_
   rotate_left
   ·go_simp; (try with_reducible rfl)
   simp only [Act.put,List.setIfInBounds_toArray,List.set_cons_zero,List.set_cons_succ]
   refine tkH (v:=?_) 3 (some 20) rfl rfl (by kernel_rfl) (by kernel_rfl) (fun _ _ _ h => h) (fun W' hSW => ?_) hS ?_
   rotate_left
   ·go_simp; (try with_reducible rfl)
   simp only [Act.put,List.setIfInBounds_toArray,List.set_cons_zero,List.set_cons_succ]
   refine tkH (v:=?_) 4 (some 21) rfl rfl (by kernel_rfl) (by kernel_rfl) (fun _ _ _ h => h) (fun W' hSW => ?_) hS ?_
   rotate_left
   ·have k0:=pw_cell_below ((below_drew (Below.refl _ _)).trans hSW) x0.out; go_simp; (try with_reducible rfl)
   simp only [Act.put,List.setIfInBounds_toArray,List.set_cons_zero,List.set_cons_succ]
   refine tkH (v:=?_) 5 (some 22) rfl rfl (by kernel_rfl) (by kernel_rfl) (fun _ _ _ h => h) (fun W' hSW => ?_) hS ?_
   rotate_left
   ·go_simp; (try with_reducible rfl)
   simp only [Act.put,List.setIfInBounds_toArray,List.set_cons_zero,List.set_cons_succ]
   refine tkH (v:=?_) 6 (some 23) rfl rfl (by kernel_rfl) (by kernel_rfl) (fun _ _ _ h => h) (fun W' hSW => ?_) hS ?_
   rotate_left
   ·go_simp; (try with_reducible rfl)
   simp only [Act.put,List.setIfInBounds_toArray,List.set_cons_zero,List.set_cons_succ]
   refine tkH (v:=?_) 7 (some 24) rfl rfl (by kernel_rfl) (by kernel_rfl) (fun _ _ _ h => h) (fun W' hSW => ?_) hS ?_
   rotate_left
   ·go_simp; (try with_reducible rfl)
   simp only [Act.put,List.setIfInBounds_toArray,List.set_cons_zero,List.set_cons_succ]
   refine tkH (v:=?_) 8 (some 25) rfl rfl (by kernel_rfl) (by kernel_rfl) (fun _ _ _ h => h) (fun W' hSW => ?_) hS ?_
   rotate_left
   ·go_simp; (try with_reducible rfl)
   simp only [Act.put,List.setIfInBounds_toArray,List.set_cons_zero,List.set_cons_succ]
   refine tkH (v:=?_) 9 (some 26) rfl rfl (by kernel_rfl) (by kernel_rfl) (fun _ _ _ h => h) (fun W' hSW => ?_) hS ?_
   rotate_left
   ·have k0:=pw_cell_below ((below_drew (Below.refl _ _)).trans hSW) y0.out; go_simp; (try with_reducible rfl)
   simp only [Act.put,List.setIfInBounds_toArray,List.set_cons_zero,List.set_cons_succ]
   refine tkH (v:=?_) 10 (some 27) rfl rfl (by kernel_rfl) (by kernel_rfl) (fun _ _ _ h => h) (fun W' hSW => ?_) hS ?_
   rotate_left
   ·go_simp; (try with_reducible rfl)
   simp only [Act.put,List.setIfInBounds_toArray,List.set_cons_zero,List.set_cons_succ]
   refine tkH (v:=?_) 11 (some 28) rfl rfl (by kernel_rfl) (by kernel_rfl) (fun _ _ _ h => h) (fun W' hSW => ?_) hS ?_
   rotate_left
   ·go_simp; (try with_reducible rfl)
   simp only [Act.put,List.setIfInBounds_toArray,List.set_cons_zero,List.set_cons_succ]
   refine tkH (v:=?_) 12 (some 29) rfl rfl (by kernel_rfl) (by kernel_rfl) (fun _ _ _ h => h) (fun W' hSW => ?_) hS ?_
   rotate_left
   ·go_simp; (try with_reducible rfl)
   simp only [Act.put,List.setIfInBounds_toArray,List.set_cons_zero,List.set_cons_succ]
   refine tkH (v:=?_) 13 (some 30) rfl rfl (by kernel_rfl) (by kernel_rfl) (fun _ _ _ h => h) (fun W' hSW => ?_) hS ?_
   rotate_left
   ·go_simp; (try with_reducible rfl)
   simp only [Act.put,List.setIfInBounds_toArray,List.set_cons_zero,List.set_cons_succ]
   refine tkH (v:=?_) 14 (some 31) rfl rfl (by kernel_rfl) (by kernel_rfl) (fun _ _ _ h => h) (fun W' hSW => ?_) hS ?_
   rotate_left
   ·go_simp; (try with_reducible rfl)
   simp only [Act.put,List.setIfInBounds_toArray,List.set_cons_zero,List.set_cons_succ]
   refine tkH (v:=?_) 15 (some 32) rfl rfl (by kernel_rfl) (by kernel_rfl) (fun _ _ _ h => h) (fun W' hSW => ?_) hS ?_
   rotate_left
   ·go_simp; (try with_reducible rfl)
   simp only [Act.put,List.setIfInBounds_toArray,List.set_cons_zero,List.set_cons_succ]
   refine tkH (v:=?_) 16 (some 33) rfl rfl (by kernel_rfl) (by kernel_rfl) (fun _ _ _ h => h) (fun W' hSW => ?_) hS ?_
   rotate_left
   ·have k0:=pw_cell_below ((below_drew (Below.refl _ _)).trans hSW) x1.out; go_simp; (try with_reducible rfl)
   simp only [Act.put,List.setIfInBounds_toArray,List.set_cons_zero,List.set_cons_succ]
   refine tkH (v:=?_) 17 (some 34) rfl rfl (by kernel_rfl) (by kernel_rfl) (fun _ _ _ h => h) (fun W' hSW => ?_) hS ?_
   rotate_left
   ·go_simp; (try with_reducible rfl)
   simp only [Act.put,List.setIfInBounds_toArray,List.set_cons_zero,List.set_cons_succ]
   refine tkH (v:=?_) 18 (some 35) rfl rfl (by kernel_rfl) (by kernel_rfl) (fun _ _ _ h => h) (fun W' hSW => ?_) hS ?_
   rotate_left
   ·go_simp; (try with_reducible rfl)
   simp only [Act.put,List.setIfInBounds_toArray,List.set_cons_zero,List.set_cons_succ]
   refine tkH (v:=?_) 19 (some 36) rfl rfl (by kernel_rfl) (by kernel_rfl) (fun _ _ _ h => h) (fun W' hSW => ?_) hS ?_
   rotate_left
   ·go_simp; (try with_reducible rfl)
   simp only [Act.put,List.setIfInBounds_toArray,List.set_cons_zero,List.set_cons_succ]
   refine tkH (v:=?_) 20 (some 37) rfl rfl (by kernel_rfl) (by kernel_rfl) (fun _ _ _ h => h) (fun W' hSW => ?_) hS ?_
   rotate_left
   ·go_simp; (try with_reducible rfl)
   simp only [Act.put,List.setIfInBounds_toArray,List.set_cons_zero,List.set_cons_succ]
   refine tkH (v:=?_) 21 (some 38) rfl rfl (by kernel_rfl) (by kernel_rfl) (fun _ _ _ h => h) (fun W' hSW => ?_) hS ?_
   rotate_left
   ·have k0:=pw_cell_below ((below_drew (Below.refl _ _)).trans hSW) y1.out; go_simp; (try with_reducible rfl)
   simp only [Act.put,List.setIfInBounds_toArray,List.set_cons_zero,List.set_cons_succ]
   refine tkH (v:=?_) 22 (some 39) rfl rfl (by kernel_rfl) (by kernel_rfl) (fun _ _ _ h => h) (fun W' hSW => ?_) hS ?_
   rotate_left
   ·go_simp; (try with_reducible rfl)
   simp only [Act.put,List.setIfInBounds_toArray,List.set_cons_zero,List.set_cons_succ]
   refine tkH (v:=?_) 23 (some 40) rfl rfl (by kernel_rfl) (by kernel_rfl) (fun _ _ _ h => h) (fun W' hSW => ?_) hS ?_
   rotate_left
   ·go_simp; (try with_reducible rfl)
   simp only [Act.put,List.setIfInBounds_toArray,List.set_cons_zero,List.set_cons_succ]
   refine tkH (v:=?_) 24 (some 41) rfl rfl (by kernel_rfl) (by kernel_rfl) (fun _ _ _ h => h) (fun W' hSW => ?_) hS ?_
   rotate_left
   ·go_simp; (try with_reducible rfl)
   simp only [Act.put,List.setIfInBounds_toArray,List.set_cons_zero,List.set_cons_succ]
   refine tkH (v:=?_) 25 (some 42) rfl rfl (by kernel_rfl) (by kernel_rfl) (fun _ _ _ h => h) (fun W' hSW => ?_) hS ?_
   rotate_left
   ·go_simp; (try with_reducible rfl)
   simp only [Act.put,List.setIfInBounds_toArray,List.set_cons_zero,List.set_cons_succ]
   refine tkH (v:=?_) 26 (some 43) rfl rfl (by kernel_rfl) (by kernel_rfl) (fun _ _ _ h => h) (fun W' hSW => ?_) hS ?_
   rotate_left
   ·go_simp; (try with_reducible rfl)
   simp only [Act.put,List.setIfInBounds_toArray,List.set_cons_zero,List.set_cons_succ]
   refine tkH (v:=?_) 27 (some 44) rfl rfl (by kernel_rfl) (by kernel_rfl) (fun _ _ _ h => h) (fun W' hSW => ?_) hS ?_
   rotate_left
   ·go_simp; (try with_reducible rfl)
   simp only [Act.put,List.setIfInBounds_toArray,List.set_cons_zero,List.set_cons_succ]
   refine tkH (v:=?_) 28 (some 45) rfl rfl (by kernel_rfl) (by kernel_rfl) (fun _ _ _ h => h) (fun W' hSW => ?_) hS ?_
   rotate_left
   ·go_simp; (try with_reducible rfl)
   simp only [Act.put,List.setIfInBounds_toArray,List.set_cons_zero,List.set_cons_succ]
   refine tkH (v:=?_) 29 (some 46) rfl rfl (by kernel_rfl) (by kernel_rfl) (fun _ _ _ h => h) (fun W' hSW => ?_) hS ?_
   rotate_left
   ·have k0:=pw_cell_below ((below_drew (Below.refl _ _)).trans hSW) x3.out; go_simp; (try with_reducible rfl)
   simp only [Act.put,List.setIfInBounds_toArray,List.set_cons_zero,List.set_cons_succ]
   refine tkH (v:=?_) 30 (some 47) rfl rfl (by kernel_rfl) (by kernel_rfl) (fun _ _ _ h => h) (fun W' hSW => ?_) hS ?_
   rotate_left
   ·go_simp; (try with_reducible rfl)
   simp only [Act.put,List.setIfInBounds_toArray,List.set_cons_zero,List.set_cons_succ]
   refine tkH (v:=?_) 31 (some 48) rfl rfl (by kernel_rfl) (by kernel_rfl) (fun _ _ _ h => h) (fun W' hSW => ?_) hS ?_
   rotate_left
   ·go_simp; (try with_reducible rfl)
   simp only [Act.put,List.setIfInBounds_toArray,List.set_cons_zero,List.set_cons_succ]
   refine tkH (v:=?_) 32 (some 49) rfl rfl (by kernel_rfl) (by kernel_rfl) (fun _ _ _ h => h) (fun W' hSW => ?_) hS ?_
   rotate_left
   ·go_simp; (try with_reducible rfl)
   simp only [Act.put,List.setIfInBounds_toArray,List.set_cons_zero,List.set_cons_succ]
   refine tkH (v:=?_) 33 (some 50) rfl rfl (by kernel_rfl) (by kernel_rfl) (fun _ _ _ h => h) (fun W' hSW => ?_) hS ?_
   rotate_left
   ·go_simp; (try with_reducible rfl)
   simp only [Act.put,List.setIfInBounds_toArray,List.set_cons_zero,List.set_cons_succ]
   refine tkH (v:=?_) 34 (some 51) rfl rfl (by kernel_rfl) (by kernel_rfl) (fun _ _ _ h => h) (fun W' hSW => ?_) hS ?_
   rotate_left
   ·have k0:=pw_cell_below ((below_drew (Below.refl _ _)).trans hSW) y3.out; go_simp; (try with_reducible rfl)
   simp only [Act.put,List.setIfInBounds_toArray,List.set_cons_zero,List.set_cons_succ]
   refine tkH (v:=?_) 35 (some 52) rfl rfl (by kernel_rfl) (by kernel_rfl) (fun _ _ _ h => h) (fun W' hSW => ?_) hS ?_
   rotate_left
   ·go_simp; (try with_reducible rfl)
   simp only [Act.put,List.setIfInBounds_toArray,List.set_cons_zero,List.set_cons_succ]
   refine tkH (v:=?_) 36 (some 53) rfl rfl (by kernel_rfl) (by kernel_rfl) (fun _ _ _ h => h) (fun W' hSW => ?_) hS ?_
   rotate_left
   ·go_simp; (try with_reducible rfl)
   simp only [Act.put,List.setIfInBounds_toArray,List.set_cons_zero,List.set_cons_succ]
   refine tkH (v:=?_) 37 (some 54) rfl rfl (by kernel_rfl) (by kernel_rfl) (fun _ _ _ h => h) (fun W' hSW => ?_) hS ?_
   rotate_left
   ·go_simp; (try with_reducible rfl)
   simp only [Act.put,List.setIfInBounds_toArray,List.set_cons_zero,List.set_cons_succ]
   refine tkH (v:=?_) 38 (some 55) rfl rfl (by kernel_rfl) (by kernel_rfl) (fun _ _ _ h => h) (fun W' hSW => ?_) hS ?_
   rotate_left
   ·go_simp; (try with_reducible rfl)
   simp only [Act.put,List.setIfInBounds_toArray,List.set_cons_zero,List.set_cons_succ]
   refine tkH (v:=?_) 39 (some 56) rfl rfl (by kernel_rfl) (by kernel_rfl) (fun _ _ _ h => h) (fun W' hSW => ?_) hS ?_
   rotate_left
   ·go_simp; (try with_reducible rfl)
   simp only [Act.put,List.setIfInBounds_toArray,List.set_cons_zero,List.set_cons_succ]
   refine tkH (v:=?_) 40 (some 57) rfl rfl (by kernel_rfl) (by kernel_rfl) (fun _ _ _ h => h) (fun W' hSW => ?_) hS ?_
   rotate_left
   ·go_simp; (try with_reducible rfl)
   simp only [Act.put,List.setIfInBounds_toArray,List.set_cons_zero,List.set_cons_succ]
   refine tkH (v:=?_) 41 (some 58) rfl rfl (by kernel_rfl) (by kernel_rfl) (fun _ _ _ h => h) (fun W' hSW => ?_) hS ?_
   rotate_left
   ·go_simp; (try with_reducible rfl)
   simp only [Act.put,List.setIfInBounds_toArray,List.set_cons_zero,List.set_cons_succ]
   refine tkH (v:=?_) 42 (some 59) rfl rfl (by kernel_rfl) (by kernel_rfl) (fun _ _ _ h => h) (fun W' hSW => ?_) hS ?_
   rotate_left
   ·have k0:=pw_cell_below ((below_drew (Below.refl _ _)).trans hSW) x2.out; go_simp; (try with_reducible rfl)
   simp only [Act.put,List.setIfInBounds_toArray,List.set_cons_zero,List.set_cons_succ]
   refine tkH (v:=?_) 43 (some 60) rfl rfl (by kernel_rfl) (by kernel_rfl) (fun _ _ _ h => h) (fun W' hSW => ?_) hS ?_
   rotate_left
   ·go_simp; (try with_reducible rfl)
   simp only [Act.put,List.setIfInBounds_toArray,List.set_cons_zero,List.set_cons_succ]
   refine tkH (v:=?_) 44 (some 61) rfl rfl (by kernel_rfl) (by kernel_rfl) (fun _ _ _ h => h) (fun W' hSW => ?_) hS ?_
   rotate_left
   ·go_simp; (try with_reducible rfl)
   simp only [Act.put,List.setIfInBounds_toArray,List.set_cons_zero,List.set_cons_succ]
   refine tkH (v:=?_) 45 (some 62) rfl rfl (by kernel_rfl) (by kernel_rfl) (fun _ _ _ h => h) (fun W' hSW => ?_) hS ?_
   rotate_left
   ·go_simp; (try with_reducible rfl)
   simp only [Act.put,List.setIfInBounds_toArray,List.set_cons_zero,List.set_cons_succ]
   refine tkH (v:=?_) 46 (some 63) rfl rfl (by kernel_rfl) (by kernel_rfl) (fun _ _ _ h => h) (fun W' hSW => ?_) hS ?_
   rotate_left
   ·go_simp; (try with_reducible rfl)
   simp only [Act.put,List.setIfInBounds_toArray,List.set_cons_zero,List.set_cons_succ]
   refine tkH (v:=?_) 47 (some 64) rfl rfl (by kernel_rfl) (by kernel_rfl) (fun _ _ _ h => h) (fun W' hSW => ?_) hS ?_
   rotate_left
   ·have k0:=pw_cell_below ((below_drew (Below.refl _ _)).trans hSW) y2.out; go_simp; (try with_reducible rfl)
   simp only [Act.put,List.setIfInBounds_toArray,List.set_cons_zero,List.set_cons_succ]
   refine wpAnyH_ready (rs:=[48]) (by kernel_rfl) (by simp) (AllReadyH.cons rfl (fun K hK => ?_) AllReadyH.nil)
   go_simp
   refine (hLn.out _ ((below_drew (Below.refl _ _)).trans hS)).mono ?_
   rintro e W2 ⟨rfl,hb⟩
   have hS:=hS.trans (hb.mono hS.size)
   clear hb
   refine hK.out _ _ hS (fun _ => ?_)
   clear hK K
   refine tkH (v:=?_) 49 (some 66) rfl rfl (by kernel_rfl) (by kernel_rfl) (fun _ _ _ h => h) (fun W' hSW => ?_) hS ?_
   rotate_left
   ·go_simp; (try with_reducible rfl)
   simp only [Act.put,List.setIfInBounds_toArray,List.set_cons_zero,List.set_cons_succ]
   refine tkH (v:=?_) 50 (some 67) rfl rfl (by kernel_rfl) (by kernel_rfl) (fun _ _ _ h => h) (fun W' hSW => ?_) hS ?_
   rotate_left
   ·go_simp; (try with_reducible rfl)
   simp only [Act.put,List.setIfInBounds_toArray,List.set_cons_zero,List.set_cons_succ]
   refine wpAnyH_done (by kernel_rfl) ?_ _
   have HS2:=Aside0.mk (B1.out.drew.trans (hS.mono B1.out.drew.size))
   go_wp2
   go_roundg (l.length - (i + 1))
   case measure => omega
   case rel => exact ⟨i + 1,by first | rfl | (rw [hwi]),by omega,HS2⟩
  ·have hdb : decide ((i : Int) < (l.length : Int)) = false:=decide_eq_false (by omega)
   go_wp2
   go_ret
   exact ⟨rfl,B1.out⟩
end Go.Proofs.YthhohbidjhcjeaaGreatDoor.H
namespace Go.Proofs.YthhohbidjhcjeaaGreatDoor.H
open Go.RowKit Go.Shelf Go.Proofs.YthhohbidjhcjeaaGreatDoorW.PrintWords Go.Proofs.YthhohbidjhcjeaaGreatDoorW.PrintLast Go.Proofs.YthhohbidjhcjeaaGreatDoorW.PrintMore
open Go.Proofs.YthhohbidjhcjeaaGreatDoor.Q Go.Proofs.YthhohbidjhcjeaaGreatDoor.Pl
set_option linter.unusedVariables false
set_option linter.unusedSimpArgs false
theorem I_at (ps : List S25) (P : Option Addr) (d : Nat) (w : World) (hps : Kd.C k25 w P ps.length ps) (hd : ps.length ≤ d) (hn : ps.length ≤ 1256584717458) :
  Calls Tryz.prog 40 #[.slice P ps.length d] w fun e w' => ∃ A c,e = .returned (.slice A (ps.reverse.map invS).length c) ∧ (ps.reverse.map invS).length ≤ c ∧ Kd.C k25 w' A (ps.reverse.map invS).length (ps.reverse.map invS) ∧ Below w.heap.size w w':=by
 refine (invert_All.calls (fun k => k < w.heap.size) P d ps (ps.reverse.map invS) w (Kd.V_mk hd (Kd.C_F k25_heap hps)) (if_pos hn)).mono ?_
 rintro e w' ⟨v,rfl,hN,hb⟩
 obtain ⟨A,c,rfl,hc,hC⟩:=Kd.N_reads hN
 exact ⟨A,c,rfl,hc,hC,hb⟩
/-- prim.All, asked at any world that grew. -/
theorem L_at (b : Nat) (l : List S41) (A : Option Addr) (c : Nat) (ps : List S25) (P : Option Addr) (d : Nat) (w : World) (hr : Kd.C k41 w A l.length l) (hps : Kd.C k25 w P ps.length ps) (hb : Bnd b l) (hb0 : b ≤ 100000000) (hn : ps.length ≤ 100000) (hq : ∀ p ∈ ps,SmallQ p) :
  ∀ U,Below w.heap.size w U → Calls Tryz.prog 29 #[.slice A l.length c,.slice P ps.length d] U fun e w' =>
   ∃ S,e = .returned (.tuple #[S,.int .i64 (allE l ps).2.1,.int .i64 ((allE l ps).2.2 : Int)]) ∧ Below U.heap.size U w' ∧ ((allE l ps).2.1 = 0 → ∃ A c,S = .slice A (allE l ps).1.length c ∧ (allE l ps).1.length ≤ c ∧ Kd.C k41 w' A (allE l ps).1.length (allE l ps).1) ∧ ((allE l ps).2.1 ≠ 0 → S = .slice none 0 0):=by
 intro U hU
 refine (all_at l A c ps P d U (fun i M => i ≤ ps.length ∧ Bnd (b + 4000 * i) M) (Kd.C_below hr hU) (Kd.C_below hps hU) hb.s (by omega) (fun _ => ⟨Nat.zero_le _,hb⟩) ?_).mono ?_
 ·intro i M p hp hi
  have hil : i < ps.length:=(List.getElem?_eq_some_iff.1 hp).1
  have hs:=hq p (List.mem_of_getElem? hp)
  exact ⟨hi.2.fit (by omega),hs.fit,fun h0 => ⟨by omega,(bnd_do hi.2 hs h0).mono (by omega)⟩⟩
 ·rintro e w' ⟨hb,hi⟩
  by_cases hE : (allE l ps).2.1 = 0
  ·rw [if_pos hE] at hi
   obtain ⟨A',c',rfl,hl,hC⟩:=hi
   exact ⟨_,by rw [hE],hb,fun _ => ⟨A',c',rfl,hl,hC⟩,fun h => absurd hE h⟩
  ·rw [if_neg hE] at hi
   exact ⟨_,hi,hb,fun h => absurd h hE,fun _ => rfl⟩
end Go.Proofs.YthhohbidjhcjeaaGreatDoor.H
namespace Go.Proofs.YthhohbidjhcjeaaGreatDoor.Op
open Go.ChangeShapes Go.WideShapes Go.Deep Go.RowKit Go.Proofs.YthhohbidjhcjeaaGreatDoorW.PrintWords Go.Proofs.YthhohbidjhcjeaaGreatDoorW.PrintMore

/-- Whatever a type's cells read, they are a leaf's cells of a good value. -/
def Opens {α : Type} (P : Program) (t : TypeId) (d : Kd α) (good : α → Prop) : Prop :=
 ∀ (H : Type) (enc : TypeId × Value → H) (w : World) (base : Nat) (spare : Nat → Bool) (held : Bool) (fuel : Nat) (cs : List Value) (x : DataW H × List MemPlace),
  DataW.trod enc P w base spare held fuel t cs = some x → (∀ n ∈ x.1.weights P t,n ≤ reachBytes) → ∃ a,d.K w a cs ∧ good a
theorem opens_int {P : Program} {t : TypeId} {k : IntKind} (ht : P.underlying t = some (.int k)) : Opens P t (Kd.int k) (fun n => (Lit.int k n).wf = true):=by
 intro H enc w base spare held fuel cs x h hw
 obtain ⟨n,rfl,rfl,hn⟩:=DataW.trod_int ht h
 exact ⟨n,rfl,hn⟩
theorem opens_bool {P : Program} {t : TypeId} (ht : P.underlying t = some .bool) : Opens P t Kd.bool (fun _ => True):=by
 intro H enc w base spare held fuel cs x h hw
 obtain ⟨n,rfl,rfl⟩:=DataW.trod_bool ht h
 exact ⟨n,rfl,trivial⟩
theorem opens_string {P : Program} {t : TypeId} (ht : P.underlying t = some .string) : Opens P t Kd.string (fun s => s.size ≤ 140737488351232):=by
 intro H enc w base spare held fuel cs x h hw
 obtain ⟨s,rfl,rfl,hn⟩:=DataW.trod_string ht h
 refine ⟨s,rfl,?_⟩
 have h2 : s.data.toList.length ≤ 140737488351232:=hw s.data.toList.length (by simp [DataW.weights])
 simpa using h2
theorem weightsAll_mem {H : Type} {P : Program} {e : TypeId} : ∀ {ds : List (DataW H)} {d : DataW H},d ∈ ds → ∀ n ∈ d.weights P e,n ∈ DataW.weightsAll P e ds
 | d0 :: ds,d,hd,n,hn => by
  rcases List.mem_cons.1 hd with rfl | hd
  ·simp only [DataW.weightsAll,List.mem_append]
   exact .inl hn
  ·simp only [DataW.weightsAll,List.mem_append]
   exact .inr (weightsAll_mem hd n hn)
 | [],_,hd,_,_ => by simp at hd
theorem opens_slice {α : Type} {P : Program} {t e : TypeId} {d : Kd α} {g : α → Prop} (b : Nat) (ht : P.underlying t = some (.slice e)) (he : Opens P e d g) (hc : P.cellsOf e = d.sz) (hb : P.bytesOf e = b) :
  Opens P t (Kd.slice e d) (fun xs => xs.length ≤ maxLen ∧ xs.length * b ≤ 140737488351232 ∧ ∀ x ∈ xs,g x):=by
 intro H enc w base spare held fuel cs x h hw
 rcases open_slice ht h with ⟨rfl,rfl⟩ | ⟨a,len,cap,m,n,D,Pl,rfl,_,hl,hm,hmm,rfl,hx⟩
 ·exact ⟨[],⟨none,0,rfl,Nat.le_refl _,Kd.C_nil d w⟩,Nat.zero_le _,by simp,by simp⟩
 ·have hlm : len ≤ m:=by rw [hmm]; split <;> omega
  have hwt : ((List.range len).map D).length * P.bytesOf e + ((List.range (m - len)).map fun j => D (len + j)).length * P.bytesOf e ≤ 140737488351232:=by
   have:=hw ((((List.range len).map D).length + ((List.range (m - len)).map fun j => D (len + j)).length) * P.bytesOf e) (by simp [DataW.weights,ht])
   rw [← Nat.add_mul]
   exact this
  have key : ∀ i,i < len → ∃ p : α,∃ cs',w.cells? base (a.add (i * P.cellsOf e)) (P.cellsOf e) = some cs' ∧ d.K w p cs' ∧ g p:=by
   intro i hi
   obtain ⟨cs',h1,h2⟩:=hx i (by omega)
   obtain ⟨p,hp,hg⟩:=he H enc w base spare held n cs' _ h2 (fun k hk => hw k (by
    simp only [DataW.weights,ht]
    refine List.mem_cons_of_mem _ (List.mem_append_left _ (weightsAll_mem (d:=D i) ?_ k hk))
    exact List.mem_map.2 ⟨i,List.mem_range.2 hi,rfl⟩))
   exact ⟨p,cs',h1,hp,hg⟩
  obtain ⟨f,hf⟩ : ∃ f : Nat → Option α,∀ i,i < len → ∃ p,f i = some p ∧ ∃ cs',w.cells? base (a.add (i * P.cellsOf e)) (P.cellsOf e) = some cs' ∧ d.K w p cs' ∧ g p:=by
   refine ⟨fun i => if h : i < len then some (key i h).choose else none,fun i hi => ⟨_,dif_pos hi,(key i hi).choose_spec⟩⟩
  have hlen : ((List.range len).filterMap f).length = len ∧ ∀ j p,((List.range len).filterMap f)[j]? = some p → j < len ∧ f j = some p:=by
   clear hwt hx hw h hl key hlm hmm
   induction len with
   | zero => simp
   | succ len ih =>
    obtain ⟨h1,h2⟩:=ih (fun i hi => hf i (by omega))
    obtain ⟨p,hp,_⟩:=hf len (by omega)
    rw [List.range_succ,List.filterMap_append]
    have e1 : List.filterMap f [len] = [p]:=by simp [hp]
    rw [e1]
    refine ⟨by simp [h1],fun j q hj => ?_⟩
    by_cases hjl : j < ((List.range len).filterMap f).length
    ·rw [List.getElem?_append_left hjl] at hj
     obtain ⟨h3,h4⟩:=h2 j q hj
     exact ⟨by omega,h4⟩
    ·rw [List.getElem?_append_right (by omega)] at hj
     have hj0 : j = len:=by
      have:=(List.getElem?_eq_some_iff.1 hj).1
      simp at this
      omega
     subst hj0
     rw [h1,Nat.sub_self] at hj
     simp only [List.getElem?_cons_zero,Option.some.injEq] at hj
     subst hj
     exact ⟨by omega,hp⟩
  obtain ⟨hlen,hget⟩:=hlen
  refine ⟨(List.range len).filterMap f,⟨some a,cap,by rw [hlen],by rw [hlen]; exact hl,?_⟩,?_,?_,?_⟩
  ·refine ⟨rfl,by rw [hlen]; have : maxLen = 9223372036854775807:=rfl; omega,fun _ => ⟨a,rfl,fun j p hj => ?_⟩⟩
   obtain ⟨hjl,hfj⟩:=hget j p hj
   obtain ⟨p',hp',cs',h1,h2,_⟩:=hf j hjl
   obtain rfl : p' = p:=Option.some.inj (hp'.symm.trans hfj)
   obtain ⟨_,hcl,hat⟩:=World.cells?_some h1
   refine ⟨cs',d.K_len h2,h2,fun i u hu => ?_⟩
   have hi : i < P.cellsOf e:=by
    have:=(List.getElem?_eq_some_iff.1 hu).1
    omega
   have h3:=hat i hi
   rw [hu,Go.Deep.add_add,hc] at h3
   exact h3
  ·rw [hlen]; exact Nat.le_trans hl hm
  ·rw [hlen,← hb]
   have : len * P.bytesOf e ≤ ((List.range len).map D).length * P.bytesOf e:=by simp
   omega
  ·intro p hp
   obtain ⟨j,hj⟩:=List.getElem?_of_mem hp
   obtain ⟨hjl,hfj⟩:=hget j p hj
   obtain ⟨p',hp',cs',h1,_,h2⟩:=hf j hjl
   obtain rfl : p' = p:=Option.some.inj (hp'.symm.trans hfj)
   exact h2

/-- The fields from one on. -/
def OpensAt {α : Type} (P : Program) (fs : List Field) (off : Nat) (d : Kd α) (good : α → Prop) : Prop :=
 ∀ (H : Type) (enc : TypeId × Value → H) (w : World) (base : Nat) (spare : Nat → Bool) (held : Bool) (n : Nat) (cs : List Value) (xs : List (DataW H × List MemPlace)),
  (∀ (i : Nat) (f : Field),fs[i]? = some f → DataW.trod enc P w base spare held n f.type ((cs.drop f.offset).take (P.cellsOf f.type)) = xs[i]?) → xs.length = fs.length →
  (∀ n ∈ DataW.weightsEach P (fs.map (·.type)) (xs.map (·.1)),n ≤ reachBytes) → cs.length = off + d.sz → ∃ a,d.K w a (cs.drop off) ∧ good a
theorem opensAt_one {α : Type} {P : Program} {f : Field} {off : Nat} {d : Kd α} {g : α → Prop} (he : Opens P f.type d g) (ho : f.offset = off) (hc : P.cellsOf f.type = d.sz) : OpensAt P [f] off d g:=by
 intro H enc w base spare held n cs xs hx hl hw hcs
 obtain ⟨x,rfl⟩ : ∃ x,xs = [x]:=by
  match xs,hl with
  | [x],_ => exact ⟨x,rfl⟩
 have h0:=hx 0 f rfl
 rw [ho,hc,List.take_of_length_le (by simp; omega)] at h0
 exact he H enc w base spare held n _ x h0 (fun k hk => hw k (by simp [DataW.weightsEach,hk]))
theorem opensAt_cons {α β : Type} {P : Program} {f : Field} {fs : List Field} {off : Nat} {d : Kd α} {d' : Kd β} {g : α → Prop} {g' : β → Prop} (he : Opens P f.type d g) (ho : f.offset = off) (hc : P.cellsOf f.type = d.sz)
  (hr : OpensAt P fs (off + d.sz) d' g') : OpensAt P (f :: fs) off (Kd.pair d d') (fun x => g x.1 ∧ g' x.2):=by
 intro H enc w base spare held n cs xs hx hl hw hcs
 obtain ⟨x,xs,rfl⟩ : ∃ x xs',xs = x :: xs':=by
  match xs,hl with
  | x :: xs,_ => exact ⟨x,xs,rfl⟩
 have h0:=hx 0 f rfl
 rw [ho,hc] at h0
 have hsz : (Kd.pair d d').sz = d.sz + d'.sz:=rfl
 obtain ⟨a,ha,hga⟩:=he H enc w base spare held n _ x h0 (fun k hk => hw k (by simp [DataW.weightsEach,hk]))
 obtain ⟨b,hb,hgb⟩:=hr H enc w base spare held n cs xs (fun i q hq => hx (i + 1) q hq) (by simpa using hl) (fun k hk => hw k (by
  simp only [List.map_cons,DataW.weightsEach,List.mem_append]
  exact .inr hk)) (by omega)
 refine ⟨(a,b),⟨(cs.drop off).take d.sz,cs.drop (off + d.sz),?_,ha,hb⟩,hga,hgb⟩
 rw [← List.drop_drop,List.take_append_drop]
theorem opens_struct {α : Type} {P : Program} {t : TypeId} {fs : Array Field} {d : Kd α} {g : α → Prop} (ht : P.underlying t = some (.struct fs)) (hc : P.cellsOf t = d.sz) (hr : OpensAt P fs.toList 0 d g) : Opens P t d g:=by
 intro H enc w base spare held fuel cs x h hw
 obtain ⟨xs,n,rfl,rfl,hl,hxl,hx⟩:=DataW.trod_struct ht h
 have:=hr H enc w base spare held n cs xs (fun i f hf => hx i f (by simpa using hf)) (by simpa using hxl) (fun k hk => hw k (by simpa [DataW.weights,ht] using hk)) (by omega)
 simpa using this
theorem opens_iso {α β : Type} {P : Program} {t : TypeId} {d : Kd α} {g : α → Prop} (f : β → α) (inv : α → β) (hi : ∀ a,f (inv a) = a) (h : Opens P t d g) : Opens P t (Kd.iso d f) (fun b => g (f b)):=by
 intro H enc w base spare held fuel cs x h' hw
 obtain ⟨a,ha,hg⟩:=h H enc w base spare held fuel cs x h' hw
 exact ⟨inv a,by show d.K w (f (inv a)) cs; rw [hi]; exact ha,by show g (f (inv a)); rw [hi]; exact hg⟩
theorem opens_imp {α : Type} {P : Program} {t : TypeId} {d : Kd α} {g g' : α → Prop} (h : Opens P t d g) (hi : ∀ a,g a → g' a) : Opens P t d g':=by
 intro H enc w base spare held fuel cs x h' hw
 obtain ⟨a,ha,hg⟩:=h H enc w base spare held fuel cs x h' hw
 exact ⟨a,ha,hi a hg⟩
/-- An argument's value, opened. -/
theorem opened {α : Type} {P : Program} {t : TypeId} {d : Kd α} {g : α → Prop} (h : Opens P t d g) {H : Type} {enc : TypeId × Value → H} {w : World} {base : Nat} {spare : Nat → Bool} {held : Bool} {v : Value} {x : DataW H} {ps : List MemPlace}
  {ts : List TypeId} {ds : List (DataW H)} {j : Nat} (hT : DataW.Trod enc P w base spare held t v x ps) (hs : (DataW.weightsEach P ts ds).all (· ≤ reachBytes) = true) (ht : ts[j]? = some t) (hd : ds[j]? = some x) : ∃ a,d.K w a v.cells.toList ∧ g a:=by
 obtain ⟨fuel,hf⟩:=hT
 exact h H enc w base spare held fuel _ (x,ps) hf (fun n hn => by simpa using List.all_eq_true.1 hs _ (DataW.weights_mem_each ht hd n hn))
end Go.Proofs.YthhohbidjhcjeaaGreatDoor.Op
namespace Go.Proofs.YthhohbidjhcjeaaGreatDoor.Od
open Go.ChangeShapes Go.WideShapes Go.ChangeAt Go.RowKit Go.Proofs.YthhohbidjhcjeaaGreatDoorW.PrintWords Go.Proofs.YthhohbidjhcjeaaGreatDoorW.PrintMore Go.Proofs.YthhohbidjhcjeaaGreatDoor.Q Go.Proofs.YthhohbidjhcjeaaGreatDoor.Op Go.Proofs.YthhohbidjhcjeaaGreatDoor.Pl
theorem own : ownKnob Tryz.prog.godebug = none:=by kernel_rfl
theorem laidOut : laidOutB Tryz.prog = true:=by kernel_rfl
/-- What each row of this seat lists. -/
def laidTabs : List (String × DataW Unit) := [("unicode/utf8.acceptRanges", Rows.laid_unicode_utf8_acceptRanges), ("unicode/utf8.first", Rows.laid_unicode_utf8_first)]
theorem o9 : Opens Tryz.prog 9 Kd.string (fun s => s.size ≤ 140737488351232):=opens_string (P:=Tryz.prog) (by kernel_rfl)
theorem o3 : Opens Tryz.prog 3 (Kd.int .i64) (fun n => (Lit.int .i64 n).wf = true):=opens_int (P:=Tryz.prog) (by kernel_rfl)
theorem o5 : Opens Tryz.prog 5 (Kd.int .u8) (fun n => (Lit.int .u8 n).wf = true):=opens_int (P:=Tryz.prog) (by kernel_rfl)
theorem o23 : Opens Tryz.prog 23 (Kd.slice 9 Kd.string) (fun xs => xs.length ≤ maxLen ∧ xs.length * 16 ≤ 140737488351232 ∧ ∀ x ∈ xs,x.size ≤ 140737488351232):=opens_slice (P:=Tryz.prog) 16 (by kernel_rfl) o9 (by kernel_rfl) (by kernel_rfl)
theorem o25 : Opens Tryz.prog 25 k25 Okp:=by
 refine opens_imp (opens_iso (fun x : S25 => (x.f0,x.f1,x.f2,x.f3,x.f4,x.f5,x.f6)) (fun x => ⟨x.1,x.2.1,x.2.2.1,x.2.2.2.1,x.2.2.2.2.1,x.2.2.2.2.2.1,x.2.2.2.2.2.2⟩) (fun _ => rfl) (opens_struct (P:=Tryz.prog) Tryz.underlying25 (by kernel_rfl)
  (opensAt_cons o3 rfl (by kernel_rfl) (opensAt_cons o9 rfl (by kernel_rfl) (opensAt_cons o9 rfl (by kernel_rfl) (opensAt_cons o9 rfl (by kernel_rfl) (opensAt_cons o3 rfl (by kernel_rfl) (opensAt_cons o23 rfl (by kernel_rfl) (opensAt_one o23 rfl (by kernel_rfl)))))))))) ?_
 rintro a ⟨_,h1,h2,h3,_,⟨_,h5,_⟩,⟨_,h6,_⟩⟩
 dsimp only at h1 h2 h3 h5 h6
 exact ⟨⟨by omega,by omega⟩,by omega,by omega,by omega⟩
theorem o34 : Opens Tryz.prog 34 (Kd.slice 25 k25) (fun xs => xs.length ≤ maxLen ∧ xs.length * 112 ≤ 140737488351232 ∧ ∀ x ∈ xs,Okp x):=opens_slice (P:=Tryz.prog) 112 (by kernel_rfl) o25 (by kernel_rfl) (by kernel_rfl)
/-- A thing's lines and texts are no longer than they can be. -/
structure Oke (x : S41) : Prop where
 n : x.f2.length ≤ 140737488355328
 p : x.f0.size ≤ 140737488355328
 d : x.f3.size ≤ 140737488355328
 t : ∀ s ∈ x.f2,s.size ≤ 140737488355328
theorem o41 : Opens Tryz.prog 41 k41 Oke:=by
 refine opens_imp (opens_iso (fun x : S41 => (x.f0,x.f1,x.f2,x.f3)) (fun x => ⟨x.1,x.2.1,x.2.2.1,x.2.2.2⟩) (fun _ => rfl) (opens_struct (P:=Tryz.prog) Tryz.underlying41 (by kernel_rfl)
  (opensAt_cons o9 rfl (by kernel_rfl) (opensAt_cons o3 rfl (by kernel_rfl) (opensAt_cons o23 rfl (by kernel_rfl) (opensAt_one o9 rfl (by kernel_rfl))))))) ?_
 rintro a ⟨h0,_,⟨_,h2,h2t⟩,h3⟩
 dsimp only at h0 h2 h2t h3
 exact ⟨by omega,by omega,by omega,fun s hs => Nat.le_trans (h2t s hs) (by decide)⟩
theorem o22 : Opens Tryz.prog 22 (Kd.slice 41 k41) (fun xs => xs.length ≤ maxLen ∧ xs.length * 64 ≤ 140737488351232 ∧ ∀ x ∈ xs,Oke x):=opens_slice (P:=Tryz.prog) 64 (by kernel_rfl) o41 (by kernel_rfl) (by kernel_rfl)
end Go.Proofs.YthhohbidjhcjeaaGreatDoor.Od
namespace Go.Proofs.YthhohbidjhcjeaaGreatDoor.Od
open Go.RowKit
set_option maxRecDepth 100000 in
set_option maxHeartbeats 4000000 in
theorem heads : Tryz.prog.mayEnter = true ∧ Tryz.prog.liftsFinal = Rows.invertUndoesRow.lifted ∧ Tryz.prog.make = some Rows.invertUndoesRow.make ∧ Tryz.prog.mainIs = some (true, "b2c3b2d2b50221d5631762a848752805bff427337fd1c8fab364110e20b5edb9".toList) := by
 have h : Tryz.prog.initOrder = String.ofList _:=rfl
 refine ⟨?_,?_,?_,?_⟩
 ·unfold Program.mayEnter
  rw [h,String.toList_ofList]
  decide +kernel
 ·unfold Program.liftsFinal Program.headLifts
  rw [h,String.toList_ofList]
  decide +kernel
 ·unfold Program.make
  rw [h,String.toList_ofList]
  decide +kernel
 ·unfold Program.mainIs
  rw [h,String.toList_ofList]
  decide +kernel
end Go.Proofs.YthhohbidjhcjeaaGreatDoor.Od
