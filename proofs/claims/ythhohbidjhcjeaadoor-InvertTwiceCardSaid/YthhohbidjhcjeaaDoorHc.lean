/- The contract of invert.All: it hands back what undoes the patches, from the last one on. -/
import Derived.Test.YthhohbidjhcjeaaDoorHa
import Derived.Test.YthhohbidjhcjeaaDoorHb
import Derived.Test.YthhohbidjhcjeaaDoorNN
import Derived.Maps.OwnIn
import Derived.RegionIn
namespace Go.Proofs.YthhohbidjhcjeaaDoor.H
open Go.RowKit Go.Shelf Go.Proofs.YthhohbidjhcjeaaDoorW.PrintWords Go.Proofs.YthhohbidjhcjeaaDoorW.PrintLast Go.Proofs.YthhohbidjhcjeaaDoorW.PrintMore
open Go.Proofs.YthhohbidjhcjeaaDoor.Q
attribute [local go_sem] Oper.semAt_some

set_option maxHeartbeats 1000000 in
theorem back_in (n : Nat) (A : Option Addr) (len cap : Nat) (w : World) :
    CallsIn Fence.wide n Tryd.prog 51 #[.slice A len cap] w fun e w' => e = .returned (.func (.func 83) #[] #[.pointer (some ⟨w.heap.size, 0, none⟩)]) ∧ w' = w.alloc (.cells #[.slice A len cap] 25) := by
  refine callsIn_of_wp Tryd.func51 rfl trivial ?_ rfl
  simp only [Tryd.ntmps51, List.size_toArray, List.length_cons, List.length_nil, Nat.reduceAdd, Nat.reduceSub, Array.replicate_succ, Array.replicate_zero, List.push_toArray, List.append_toArray, List.nil_append, List.cons_append]
  gi_wp2
  go_ret
  exact ⟨rfl, rfl⟩

theorem back_stops (n : Nat) (hn : 1 ≤ n) (Bs : Nat) (w0 w : World) (ok : Nat → Prop) (A : Option Addr) (cap : Nat) (zs : List S24) (hlen : zs.length * 112 ≤ 140737488355328) (hF : Kd.F k24 w0 ok A zs.length zs)
    (hW : Below w0.heap.size w0 w) (hBs : w.cell? ⟨Bs, 0, none⟩ = some (.slice A zs.length cap)) :
    SeqStopsK Fence.wide n Tryd.prog 83 #[.pointer (some ⟨Bs, 0, none⟩)] (encB (w0 := w0) (ok := ok)) (KpB w0 Bs) (fun ys => ys.map (fun y => y.2.1.1) = zs.reverse) (fun pre => pre.map (fun y => y.2.1.1) <+: zs.reverse) zs.length w :=
  fun l J Jx W hWW _ _ hY h0 => back1 n hn l Bs w0 ok A cap zs hlen hF J Jx hY W (hW.trans (hWW.mono hW.size)) (pw_cell_below hWW hBs) h0

/-- An object that is no cells is no row's block. -/
theorem row_cells {w : World} {α : Type} {d : Kd α} {e base : Nat} {B : Nat → Prop} {v : Value} {xs : List α} (h : Kd.NN d e w base B v xs) {r : Nat} (hr : ∃ o : Obj, w.heap[r]? = some o ∧ o.isCells = false) : v.ownBlock ≠ some r := fun he => by
  obtain ⟨cells, hc⟩ := Kd.NN_typed h r he
  obtain ⟨o, ho, hn⟩ := hr
  rw [hc] at ho
  cases ho
  cases hn
theorem row_box {w : World} {α : Type} {d : Kd α} {e base : Nat} {B : Nat → Prop} {v u : Value} {xs : List α} {Bx t : Nat} (h : Kd.NN d e w base B v xs) (hb : Boxed w Bx t u) (hne : e ≠ t) : v.ownBlock ≠ some Bx := fun he => by
  obtain ⟨cells, hc⟩ := Kd.NN_typed h Bx he
  rw [show w.heap[Bx]? = _ from hb] at hc
  cases hc
  exact hne rfl

/-- What a round leaves: what the law of the loop asks. -/
theorem all_round {w W w1 w2 : World} {B : Nat → Prop} {v v2 sv : Value} {xs ys : List S24} {o : Obj} {n0 : Nat} (hbel : Below w.heap.size w W) (hbW : Below W.heap.size W w1) (hN : Kd.NN k24 24 W w.heap.size B v xs) (hB : ∀ k, B k → k < w.heap.size)
    (hb : Boxed W (w.heap.size + 1) 25 sv) (_hv : Boxed W w.heap.size 25 v) (hg2 : (w1.alloc o).grownBy w2 v.ownBlock) (hN2 : Kd.NN k24 24 w2 w.heap.size B v2 ys) (hv2 : Boxed w2 w.heap.size 25 v) (hs2 : Boxed w2 (w.heap.size + 1) 25 sv) :
    KeepsFrom n0 W (w2.setCell ⟨w.heap.size, 0, none⟩ v2) ∧ KpB w (w.heap.size + 1) W (w2.setCell ⟨w.heap.size, 0, none⟩ v2) ∧
      (∃ v, Boxed (w2.setCell ⟨w.heap.size, 0, none⟩ v2) w.heap.size 25 v ∧ Kd.NN k24 24 (w2.setCell ⟨w.heap.size, 0, none⟩ v2) w.heap.size B v ys) ∧ Boxed (w2.setCell ⟨w.heap.size, 0, none⟩ v2) (w.heap.size + 1) 25 sv ∧ Below w.heap.size w (w2.setCell ⟨w.heap.size, 0, none⟩ v2) := by
  have h0 := hbel.size
  have h1 := hbW.size
  have hs3 : Boxed (w2.setCell ⟨w.heap.size, 0, none⟩ v2) (w.heap.size + 1) 25 sv := hs2.other (by omega) _
  have hbb : Below w.heap.size W (w2.setCell ⟨w.heap.size, 0, none⟩ v2) := by
    refine Below.setCell (p := ⟨w.heap.size, 0, none⟩) ?_ (Nat.le_refl _) _
    refine Below.grown ((hbW.mono h0).alloc (by omega) o) hg2 (by simp; omega) (fun k e => Kd.NN_base hN k e)
  have hke : KeepsOthers W w1 := ⟨h1, fun k o hk _ => (hbW.block k (Array.getElem?_eq_some_iff.1 hk).1).trans hk⟩
  have hko : KeepsOthers (w1.alloc o) w2 := KeepsOthers.of_grownBy hg2 (fun j o' e hj => by
    obtain ⟨cells, hc⟩ := Kd.NN_typed hN j e
    have hlt := Kd.NN_lt hN j e
    have : (w1.alloc o).heap[j]? = some (.cells cells 24 (0, 0)) := (Below.heap_alloc w1 o j (by omega)).trans ((hbW.block j hlt).trans hc)
    rw [this] at hj
    cases hj
    rfl)
  refine ⟨((hke.trans (KeepsOthers.alloc _ _)).trans (hko.trans (KeepsOthers.setCell _ _ _))).from _, ⟨hbb, fun u hu => by rw [hb.cell] at hu; cases hu; exact hs3.cell⟩, ⟨v2, hv2.set v2, Kd.NN_far hN2 hB (Nat.le_refl _) (row_box hN2 hv2 (by decide)) _⟩, hs3, hbel.trans hbb⟩

/-- A patch's zero value, its cells, its bytes. -/
theorem infoP : (Tryd.prog.info? 24).map (fun i => (i.zero, i.size, i.bytes)) = some (some (.agg #[(.int .i64 0), (.string ⟨#[]⟩), (.string ⟨#[]⟩), (.string ⟨#[]⟩), (.int .i64 0), (.slice none 0 0), (.slice none 0 0)]), 7, 112) := by kernel_rfl
set_option maxRecDepth 100000 in
set_option maxHeartbeats 2000000 in
theorem all_in (w : World) (ok : Nat → Prop) (A : Option Addr) (cap : Nat) (zs : List S24) (hlen : zs.length * 112 ≤ 140737488355328) (hF0 : Kd.F k24 w ok A zs.length zs) :
    CallsIn Fence.wide 6 Tryd.prog 22 #[.slice A zs.length cap] w fun e W' => ∃ v, e = .returned v ∧ Kd.N k24 24 W' w.heap.size (fun k_ => (ok k_ ∨ w.heap.size ≤ k_)) v (zs.reverse.map invS) ∧ Below w.heap.size w W' := by
  obtain ⟨B, hBd⟩ : ∃ B : Nat → Prop, B = fun k => ok k ∧ k < w.heap.size := ⟨_, rfl⟩
  have hF : Kd.F k24 w B A zs.length zs := by rw [hBd]; exact Kd.F_bound hF0
  have hB : ∀ k, B k → k < w.heap.size := by rw [hBd]; exact fun k h => h.2
  have hBok : ∀ k, B k → ok k := by rw [hBd]; exact fun k h => h.1
  clear hBd hF0
  refine callsIn_of_wp_marks Tryd.func22 rfl trivial ?_ rfl
  simp only [Tryd.ntmps22, List.size_toArray, List.length_cons, List.length_nil, Nat.reduceAdd, Nat.reduceSub, Array.replicate_succ, Array.replicate_zero, List.push_toArray, List.append_toArray, List.nil_append, List.cons_append]
  gi_wp2_with (refine ⟨trivial, ?_⟩; gi_at_call 51; refine (back_in _ _ _ _ _).mono ?_; rintro e w' ⟨rfl, rfl⟩)
  have bO := (Boxed.new w 25 (.slice none 0 0)).alloc (.cells #[.slice A zs.length cap] 25)
  have bS := Boxed.new (w.alloc (.cells #[.slice none 0 0] 25)) 25 (.slice A zs.length cap)
  simp only [World.size_alloc] at bO bS
  have hB0 : Below w.heap.size w ((w.alloc (.cells #[.slice none 0 0] 25)).alloc (.cells #[.slice A zs.length cap] 25)) := ((Below.refl _ w).alloc (Nat.le_refl _) _).alloc (by simp) _
  have hsz : ((w.alloc (.cells #[.slice none 0 0] 25)).alloc (.cells #[.slice A zs.length cap] 25)).heap.size = w.heap.size + 2 := by simp
  obtain ⟨W0, hW0⟩ : ∃ W0, (w.alloc (.cells #[.slice none 0 0] 25)).alloc (.cells #[.slice A zs.length cap] 25) = W0 := ⟨_, rfl⟩
  rw [hW0] at bO bS hB0 hsz ⊢
  clear hW0
  refine wpIn_rangeFunc_ownH (F := Fence.wide) rfl (by omega) (gf := 83) (lb := #[.pointer (some ⟨w.heap.size + 1, 0, none⟩)]) rfl trivial (enters_of Tryd.func83 (by kernel_rfl) rfl)
    (back_stops 5 (by omega) (w.heap.size + 1) w W0 B A cap zs hlen hF hB0 bS.cell) ?kt ?kb (Below.refl _ _) (fun _ => rfl)
    (fun pre W => (∃ v, Boxed W w.heap.size 25 v ∧ Kd.NN k24 24 W w.heap.size B v (pre.map (fun y => invS y.2.1.1))) ∧ Boxed W (w.heap.size + 1) 25 (.slice A zs.length cap) ∧ Below w.heap.size w W)
    (fun _ _ _ => False)
    ?own
    (fun _ _ _ _ _ hs _ _ => hs)
    ⟨⟨_, bO, Kd.NN_nil _ _ _ _ _⟩, bS, hB0⟩
    (fun x a' W => ∃ Bx, w.heap.size + 1 < Bx ∧ W.heap[Bx]? = some (.cells x.2.1.2.toArray 24 (0, 0)) ∧ a' = { tmps := #[.slice A zs.length cap, undef, .slice none 0 0, .pointer (some ⟨w.heap.size, 0, none⟩), undef, .pointer (some ⟨Bx, 0, none⟩), .slice A zs.length cap, .func (.func 83) #[] #[.pointer (some ⟨w.heap.size + 1, 0, none⟩)], .int .i64 (x.1 : Int), .agg x.2.1.2.toArray, undef, undef, undef, undef, undef, undef], defers := [] })
    ?ownx ?assign ?body ?done ?stop
  case kt => exact fun h k => ⟨h.1.trans k.1, fun v hv => k.2 v (h.2 v hv)⟩
  case kb => exact fun W l o o' hl h hc hw => ⟨belowK_b (w := W0) (by omega) W l o o' hl h hc hw, fun v hv => cell_kept hv (grownBy_putObj' W l o') (fun r e => by cases e; exact ⟨o, h, hc⟩)⟩
  case own =>
    rintro pre X Y row ⟨⟨v, hv, hN⟩, hb, hbel⟩ hg hr
    refine ⟨⟨v, boxed_own _ 25 (fun (_ : Unit) => v) () X Y row hv hg (fun r e => (hr r e).2), Kd.NN_grown hN hB hg (fun r e => ⟨by have := (hr r e).1; omega, row_cells hN (hr r e).2⟩)⟩, boxed_own _ 25 (fun (_ : Unit) => Value.slice A zs.length cap) () X Y row hb hg (fun r e => (hr r e).2), ownFrom_below (β := Unit) (Nat.le_refl _) (by omega) () X Y row hbel hg hr⟩
  case ownx =>
    rintro x a' u X Y row ⟨Bx, h1, h2, h3⟩ hg hr
    refine ⟨Bx, h1, ?_, h3⟩
    refine (hg.block Bx (Array.getElem?_eq_some_iff.1 h2).1 (fun e' => ?_)).trans h2
    obtain ⟨o, ho, hc⟩ := (hr Bx e'.symm).2
    rw [h2] at ho; cases ho; cases hc
  case assign =>
    rintro l pre ⟨i, ⟨⟨x, c⟩, hx⟩⟩ W K ⟨⟨v, hv, hN⟩, hb, hbel⟩ hK
    obtain ⟨A5, c5, A6, c6, hce, _⟩ := k24_openF hx
    dsimp only at hce
    subst hce
    dsimp only [encB] at hK ⊢
    gi_wp2
    have hWs := hbel.size
    have hlb := hb.lt
    exact hK _ _ ((KeepsOthers.alloc _ _).from _) ⟨(Below.refl _ W).alloc hWs _, fun v hv => by rw [hb.cell] at hv; cases hv; exact (hb.alloc _).cell⟩ ⟨⟨v, hv.alloc _, Kd.NN_below hN (below_alloc (Below.refl _ _) _)⟩, hb.alloc _, hbel.alloc hWs _⟩ ⟨W.heap.size, by omega, World.alloc_heap_new W _, rfl⟩
  case body =>
    rintro l pre ⟨i, ⟨⟨x, c⟩, hx⟩⟩ a' W hl _ ⟨⟨v, hv, hN⟩, hb, hbel⟩ ⟨Bx, hBx, hbx, rfl⟩ hlt
    obtain ⟨A5, c5, A6, c6, hce, _⟩ := k24_openF hx
    dsimp only at hce
    subst hce
    dsimp only at hbx ⊢
    have hcO := hv.cell
    have y0 := blk_cell hbx 0
    have y1 := blk_cell hbx 1
    have y2 := blk_cell hbx 2
    have y3 := blk_cell hbx 3
    have y4 := blk_cell hbx 4
    have y5 := blk_cell hbx 5
    have y6 := blk_cell hbx 6
    simp only [List.getElem?_toArray, List.getElem?_cons_zero, List.getElem?_cons_succ] at y0 y1 y2 y3 y4 y5 y6
    gi_wp2
    have fol : Tryd.prog.follows .mixedOrders = true := by kernel_rfl
    have hx1 := Kd.FK_below hx hbel.drew
    obtain ⟨i0, hi, hz0, hz1, hz2⟩ := info_parts infoP
    have hpl : pre.length < zs.length := hlt
    have h0w := hbel.size
    have hvlt := hv.lt
    refine wpIn_region_any fol ?_
    change wpAnyIn _ _ _ _ _ _ _ _ _ (World.drew _)
    refine wpAnyIn_ready (rs := [0, 1]) (by kernel_rfl) (by simp) ?_
    refine AllReadyIn.cons rfl (fun K hK => ?_) (AllReadyIn.cons rfl (fun K hK => ?_) AllReadyIn.nil)
    · go_simp
      refine hK _ _ ?_
      clear hK K
      refine wpAnyIn_ready (rs := [1]) (by kernel_rfl) (by simp) ?_
      refine AllReadyIn.cons rfl (fun K hK => ?_) AllReadyIn.nil
      go_simp
      refine hK _ _ ?_
      clear hK K
      refine wpAnyIn_ready (rs := [2]) (by kernel_rfl) (by simp) ?_
      refine AllReadyIn.cons rfl (fun K hK => ?_) AllReadyIn.nil
      go_simp
      refine ⟨trivial, ?_⟩
      refine (CallsIn.inRound l (callsIn_wide.2 (inv_FK x _ _ B hx1))).mono ?_
      rintro e w1 ⟨c', rfl, hc', hb1⟩
      obtain ⟨B5, d5, B6, d6, hcc, _⟩ := k24_openF hc'
      subst hcc
      have hbW : Below W.heap.size W w1 := ⟨hb1.os, hb1.tape, hb1.output, hb1.size, hb1.block⟩
      clear hb1
      have hN1 := Kd.NN_below (Kd.NN_below hN hbW) (below_alloc (Below.refl _ _) (.cells #[.int .i64 (invS x).f0, .string (invS x).f1, .string (invS x).f2, .string (invS x).f3, .int .i64 (invS x).f4, .slice B5 (invS x).f5.length d5, .slice B6 (invS x).f6.length d6] 24))
      have hsz0 := hbW.size
      have hlt1 : w.heap.size < w1.heap.size := by omega
      have hc1 := Boxed.cell (W := w1) (B := w.heap.size) (t := 25) (v := v) ((hbW.block _ hv.lt).trans hv)
      refine hK _ _ ?_
      clear hK K
      refine wpAnyIn_ready (rs := [3]) (by kernel_rfl) (by simp) ?_
      refine AllReadyIn.cons rfl (fun K hK => ?_) AllReadyIn.nil
      go_simp
      refine hK _ _ ?_
      clear hK K
      refine wpAnyIn_ready (rs := [4]) (by kernel_rfl) (by simp) ?_
      refine AllReadyIn.cons rfl (fun K hK => ?_) AllReadyIn.nil
      have hsz1 := hbW.size
      obtain ⟨inner, ho, hr⟩ := Kd.NN_own hN1
      refine stepIn_append_own_at rfl (.tmp 10) (.tmp 13) 25 rfl w.heap.size 24 i0 _ 7 112 Tryd.underlying25 hi hz0 hz1 hz2 rfl (by decide) v _ inner rfl ho ⟨w1.heap.size, 0, none⟩ 1 1 _ rfl rfl (World.news_of_block (cs := #[.int .i64 (invS x).f0, .string (invS x).f1, .string (invS x).f2, .string (invS x).f3, .int .i64 (invS x).f4, .slice B5 (invS x).f5.length d5, .slice B6 (invS x).f6.length d6]) (t := 24) (fr := (0, 0)) (heap_alloc_new w1 _)) (k24.K_one (Kd.FK_now hc')) (by simp only [maxLen, List.length_map]; omega) (by simp only [List.length_map]; omega) (by simp; omega) ?_
      intro v2 w2 hown2 hg2 _ hat2
      have hN2 := Kd.NN_append ho hr hB (Kd.FK_below hc' (below_alloc (Below.refl _ _) _)) (by rw [List.length_map] at hown2 ⊢; exact hown2) hg2
      have hv2 : Boxed w2 w.heap.size 25 v := Boxed.kept (Boxed.alloc (W := w1) (B := w.heap.size) (t := 25) (v := v) ((hbW.block _ hv.lt).trans hv) _) hg2 (fun e => row_box hN hv (by decide) e.symm)
      have hs2 : Boxed w2 (w.heap.size + 1) 25 (.slice A zs.length cap) := Boxed.kept (Boxed.alloc (W := w1) (B := w.heap.size + 1) (t := 25) (v := .slice A zs.length cap) ((hbW.block _ hb.lt).trans hb) _) hg2 (fun e => row_box hN hb (by decide) e.symm)
      have hfin := all_round (n0 := W0.heap.size) hbel hbW hN hB hb hv hg2 hN2 hv2 hs2
      clear hN2 hs2 hr ho hN1
      obtain ⟨g2, cap2, rfl⟩ := ownsRow_succ hown2
      have hc2 := hv2.cell
      have hf2 := hv2.frozen
      clear hown2
      refine hK _ _ ?_
      clear hK K
      refine wpAnyIn_ready (rs := [5]) (by kernel_rfl) (by simp) ?_
      refine AllReadyIn.cons rfl (fun K hK => ?_) AllReadyIn.nil
      go_simp
      refine hK _ _ ?_
      clear hK K
      refine wpAnyIn_done (by kernel_rfl) ?_ _
      rw [List.length_map] at hfin
      exact ⟨hfin.1, hfin.2.1, by dsimp only; rw [List.map_append]; exact hfin.2.2⟩
    · go_simp
      refine hK _ _ ?_
      clear hK K
      refine wpAnyIn_ready (rs := [0, 2]) (by kernel_rfl) (by simp) ?_
      refine AllReadyIn.cons rfl (fun K hK => ?_) (AllReadyIn.cons rfl (fun K hK => ?_) AllReadyIn.nil)
      · go_simp
        refine hK _ _ ?_
        clear hK K
        refine wpAnyIn_ready (rs := [2]) (by kernel_rfl) (by simp) ?_
        refine AllReadyIn.cons rfl (fun K hK => ?_) AllReadyIn.nil
        go_simp
        refine ⟨trivial, ?_⟩
        refine (CallsIn.inRound l (callsIn_wide.2 (inv_FK x _ _ B hx1))).mono ?_
        rintro e w1 ⟨c', rfl, hc', hb1⟩
        obtain ⟨B5, d5, B6, d6, hcc, _⟩ := k24_openF hc'
        subst hcc
        have hbW : Below W.heap.size W w1 := ⟨hb1.os, hb1.tape, hb1.output, hb1.size, hb1.block⟩
        clear hb1
        have hN1 := Kd.NN_below (Kd.NN_below hN hbW) (below_alloc (Below.refl _ _) (.cells #[.int .i64 (invS x).f0, .string (invS x).f1, .string (invS x).f2, .string (invS x).f3, .int .i64 (invS x).f4, .slice B5 (invS x).f5.length d5, .slice B6 (invS x).f6.length d6] 24))
        have hsz0 := hbW.size
        have hlt1 : w.heap.size < w1.heap.size := by omega
        have hc1 := Boxed.cell (W := w1) (B := w.heap.size) (t := 25) (v := v) ((hbW.block _ hv.lt).trans hv)
        refine hK _ _ ?_
        clear hK K
        refine wpAnyIn_ready (rs := [3]) (by kernel_rfl) (by simp) ?_
        refine AllReadyIn.cons rfl (fun K hK => ?_) AllReadyIn.nil
        go_simp
        refine hK _ _ ?_
        clear hK K
        refine wpAnyIn_ready (rs := [4]) (by kernel_rfl) (by simp) ?_
        refine AllReadyIn.cons rfl (fun K hK => ?_) AllReadyIn.nil
        have hsz1 := hbW.size
        obtain ⟨inner, ho, hr⟩ := Kd.NN_own hN1
        refine stepIn_append_own_at rfl (.tmp 10) (.tmp 13) 25 rfl w.heap.size 24 i0 _ 7 112 Tryd.underlying25 hi hz0 hz1 hz2 rfl (by decide) v _ inner rfl ho ⟨w1.heap.size, 0, none⟩ 1 1 _ rfl rfl (World.news_of_block (cs := #[.int .i64 (invS x).f0, .string (invS x).f1, .string (invS x).f2, .string (invS x).f3, .int .i64 (invS x).f4, .slice B5 (invS x).f5.length d5, .slice B6 (invS x).f6.length d6]) (t := 24) (fr := (0, 0)) (heap_alloc_new w1 _)) (k24.K_one (Kd.FK_now hc')) (by simp only [maxLen, List.length_map]; omega) (by simp only [List.length_map]; omega) (by simp; omega) ?_
        intro v2 w2 hown2 hg2 _ hat2
        have hN2 := Kd.NN_append ho hr hB (Kd.FK_below hc' (below_alloc (Below.refl _ _) _)) (by rw [List.length_map] at hown2 ⊢; exact hown2) hg2
        have hv2 : Boxed w2 w.heap.size 25 v := Boxed.kept (Boxed.alloc (W := w1) (B := w.heap.size) (t := 25) (v := v) ((hbW.block _ hv.lt).trans hv) _) hg2 (fun e => row_box hN hv (by decide) e.symm)
        have hs2 : Boxed w2 (w.heap.size + 1) 25 (.slice A zs.length cap) := Boxed.kept (Boxed.alloc (W := w1) (B := w.heap.size + 1) (t := 25) (v := .slice A zs.length cap) ((hbW.block _ hb.lt).trans hb) _) hg2 (fun e => row_box hN hb (by decide) e.symm)
        have hfin := all_round (n0 := W0.heap.size) hbel hbW hN hB hb hv hg2 hN2 hv2 hs2
        clear hN2 hs2 hr ho hN1
        obtain ⟨g2, cap2, rfl⟩ := ownsRow_succ hown2
        have hc2 := hv2.cell
        have hf2 := hv2.frozen
        clear hown2
        refine hK _ _ ?_
        clear hK K
        refine wpAnyIn_ready (rs := [5]) (by kernel_rfl) (by simp) ?_
        refine AllReadyIn.cons rfl (fun K hK => ?_) AllReadyIn.nil
        go_simp
        refine hK _ _ ?_
        clear hK K
        refine wpAnyIn_done (by kernel_rfl) ?_ _
        rw [List.length_map] at hfin
        exact ⟨hfin.1, hfin.2.1, by dsimp only; rw [List.map_append]; exact hfin.2.2⟩
      · go_simp
        refine ⟨trivial, ?_⟩
        refine (CallsIn.inRound l (callsIn_wide.2 (inv_FK x _ _ B hx1))).mono ?_
        rintro e w1 ⟨c', rfl, hc', hb1⟩
        obtain ⟨B5, d5, B6, d6, hcc, _⟩ := k24_openF hc'
        subst hcc
        have hbW : Below W.heap.size W w1 := ⟨hb1.os, hb1.tape, hb1.output, hb1.size, hb1.block⟩
        clear hb1
        have hN1 := Kd.NN_below (Kd.NN_below hN hbW) (below_alloc (Below.refl _ _) (.cells #[.int .i64 (invS x).f0, .string (invS x).f1, .string (invS x).f2, .string (invS x).f3, .int .i64 (invS x).f4, .slice B5 (invS x).f5.length d5, .slice B6 (invS x).f6.length d6] 24))
        have hsz0 := hbW.size
        have hlt1 : w.heap.size < w1.heap.size := by omega
        have hc1 := Boxed.cell (W := w1) (B := w.heap.size) (t := 25) (v := v) ((hbW.block _ hv.lt).trans hv)
        refine hK _ _ ?_
        clear hK K
        refine wpAnyIn_ready (rs := [0, 3]) (by kernel_rfl) (by simp) ?_
        refine AllReadyIn.cons rfl (fun K hK => ?_) (AllReadyIn.cons rfl (fun K hK => ?_) AllReadyIn.nil)
        · go_simp
          refine hK _ _ ?_
          clear hK K
          refine wpAnyIn_ready (rs := [3]) (by kernel_rfl) (by simp) ?_
          refine AllReadyIn.cons rfl (fun K hK => ?_) AllReadyIn.nil
          go_simp
          refine hK _ _ ?_
          clear hK K
          refine wpAnyIn_ready (rs := [4]) (by kernel_rfl) (by simp) ?_
          refine AllReadyIn.cons rfl (fun K hK => ?_) AllReadyIn.nil
          have hsz1 := hbW.size
          obtain ⟨inner, ho, hr⟩ := Kd.NN_own hN1
          refine stepIn_append_own_at rfl (.tmp 10) (.tmp 13) 25 rfl w.heap.size 24 i0 _ 7 112 Tryd.underlying25 hi hz0 hz1 hz2 rfl (by decide) v _ inner rfl ho ⟨w1.heap.size, 0, none⟩ 1 1 _ rfl rfl (World.news_of_block (cs := #[.int .i64 (invS x).f0, .string (invS x).f1, .string (invS x).f2, .string (invS x).f3, .int .i64 (invS x).f4, .slice B5 (invS x).f5.length d5, .slice B6 (invS x).f6.length d6]) (t := 24) (fr := (0, 0)) (heap_alloc_new w1 _)) (k24.K_one (Kd.FK_now hc')) (by simp only [maxLen, List.length_map]; omega) (by simp only [List.length_map]; omega) (by simp; omega) ?_
          intro v2 w2 hown2 hg2 _ hat2
          have hN2 := Kd.NN_append ho hr hB (Kd.FK_below hc' (below_alloc (Below.refl _ _) _)) (by rw [List.length_map] at hown2 ⊢; exact hown2) hg2
          have hv2 : Boxed w2 w.heap.size 25 v := Boxed.kept (Boxed.alloc (W := w1) (B := w.heap.size) (t := 25) (v := v) ((hbW.block _ hv.lt).trans hv) _) hg2 (fun e => row_box hN hv (by decide) e.symm)
          have hs2 : Boxed w2 (w.heap.size + 1) 25 (.slice A zs.length cap) := Boxed.kept (Boxed.alloc (W := w1) (B := w.heap.size + 1) (t := 25) (v := .slice A zs.length cap) ((hbW.block _ hb.lt).trans hb) _) hg2 (fun e => row_box hN hb (by decide) e.symm)
          have hfin := all_round (n0 := W0.heap.size) hbel hbW hN hB hb hv hg2 hN2 hv2 hs2
          clear hN2 hs2 hr ho hN1
          obtain ⟨g2, cap2, rfl⟩ := ownsRow_succ hown2
          have hc2 := hv2.cell
          have hf2 := hv2.frozen
          clear hown2
          refine hK _ _ ?_
          clear hK K
          refine wpAnyIn_ready (rs := [5]) (by kernel_rfl) (by simp) ?_
          refine AllReadyIn.cons rfl (fun K hK => ?_) AllReadyIn.nil
          go_simp
          refine hK _ _ ?_
          clear hK K
          refine wpAnyIn_done (by kernel_rfl) ?_ _
          rw [List.length_map] at hfin
          exact ⟨hfin.1, hfin.2.1, by dsimp only; rw [List.map_append]; exact hfin.2.2⟩
        · go_simp
          refine hK _ _ ?_
          clear hK K
          refine wpAnyIn_ready (rs := [0]) (by kernel_rfl) (by simp) ?_
          refine AllReadyIn.cons rfl (fun K hK => ?_) AllReadyIn.nil
          go_simp
          refine hK _ _ ?_
          clear hK K
          refine wpAnyIn_ready (rs := [4]) (by kernel_rfl) (by simp) ?_
          refine AllReadyIn.cons rfl (fun K hK => ?_) AllReadyIn.nil
          have hsz1 := hbW.size
          obtain ⟨inner, ho, hr⟩ := Kd.NN_own hN1
          refine stepIn_append_own_at rfl (.tmp 10) (.tmp 13) 25 rfl w.heap.size 24 i0 _ 7 112 Tryd.underlying25 hi hz0 hz1 hz2 rfl (by decide) v _ inner rfl ho ⟨w1.heap.size, 0, none⟩ 1 1 _ rfl rfl (World.news_of_block (cs := #[.int .i64 (invS x).f0, .string (invS x).f1, .string (invS x).f2, .string (invS x).f3, .int .i64 (invS x).f4, .slice B5 (invS x).f5.length d5, .slice B6 (invS x).f6.length d6]) (t := 24) (fr := (0, 0)) (heap_alloc_new w1 _)) (k24.K_one (Kd.FK_now hc')) (by simp only [maxLen, List.length_map]; omega) (by simp only [List.length_map]; omega) (by simp; omega) ?_
          intro v2 w2 hown2 hg2 _ hat2
          have hN2 := Kd.NN_append ho hr hB (Kd.FK_below hc' (below_alloc (Below.refl _ _) _)) (by rw [List.length_map] at hown2 ⊢; exact hown2) hg2
          have hv2 : Boxed w2 w.heap.size 25 v := Boxed.kept (Boxed.alloc (W := w1) (B := w.heap.size) (t := 25) (v := v) ((hbW.block _ hv.lt).trans hv) _) hg2 (fun e => row_box hN hv (by decide) e.symm)
          have hs2 : Boxed w2 (w.heap.size + 1) 25 (.slice A zs.length cap) := Boxed.kept (Boxed.alloc (W := w1) (B := w.heap.size + 1) (t := 25) (v := .slice A zs.length cap) ((hbW.block _ hb.lt).trans hb) _) hg2 (fun e => row_box hN hb (by decide) e.symm)
          have hfin := all_round (n0 := W0.heap.size) hbel hbW hN hB hb hv hg2 hN2 hv2 hs2
          clear hN2 hs2 hr ho hN1
          obtain ⟨g2, cap2, rfl⟩ := ownsRow_succ hown2
          have hc2 := hv2.cell
          have hf2 := hv2.frozen
          clear hown2
          refine hK _ _ ?_
          clear hK K
          refine wpAnyIn_ready (rs := [5]) (by kernel_rfl) (by simp) ?_
          refine AllReadyIn.cons rfl (fun K hK => ?_) AllReadyIn.nil
          go_simp
          refine hK _ _ ?_
          clear hK K
          refine wpAnyIn_done (by kernel_rfl) ?_ _
          rw [List.length_map] at hfin
          exact ⟨hfin.1, hfin.2.1, by dsimp only; rw [List.map_append]; exact hfin.2.2⟩
  case done =>
    rintro D ys W hD hys ⟨⟨v, hv, hN⟩, hb, hbel⟩ hK
    have hc := hv.cell
    gi_wp2
    refine ⟨by simp, .inl ⟨_, _, rfl, run_takeDeferred hK, ?_⟩⟩
    have hm : ys.map (fun y => invS y.2.1.1) = zs.reverse.map invS := by rw [← hys, List.map_map]; rfl
    rw [hm] at hN
    refine ⟨_, results_tmp rfl _ _ _, v, rfl, ?_, hbel.trans (belowK_b (w := w) (Nat.le_refl _) W D _ _ (by omega) hK rfl rfl)⟩
    refine Kd.N_mono (Kd.NN_N (Kd.NN_grown hN hB (grownBy_putObj' W D (.deferred none)) (fun r e => by cases e; exact ⟨by omega, row_cells hN ⟨_, hK, rfl⟩⟩)) hB) (fun k hk => hk.imp (hBok k) id)
  case stop =>
    rintro D c pre W _ _ h _
    exact h.elim
end Go.Proofs.YthhohbidjhcjeaaDoor.H

namespace Go.Proofs.YthhohbidjhcjeaaDoor.Q
open Go.RowKit Go.Proofs.YthhohbidjhcjeaaDoorW.PrintWords Go.Proofs.YthhohbidjhcjeaaDoorW.PrintLast Go.Proofs.YthhohbidjhcjeaaDoorW.PrintMore
open Go.Proofs.YthhohbidjhcjeaaDoor.H
/-! ### in the printed form -/
def invert_All.f (l0 : List (S24)) : Option ((List (S24))) := if l0.length ≤ 1256584717458 then some (l0.reverse.map invS) else none
theorem invert_All.calls (P0_ : Nat → Prop) (A0 : Option Addr) (c0 : Nat) (l0 : List (S24)) (r : List (S24)) (w : World) (hs0 : Kd.V k24 24 w w.heap.size (fun k_ => P0_ k_) (.slice A0 l0.length c0) l0) (h : invert_All.f l0 = some r) :
    Calls Tryd.prog 22 #[.slice A0 l0.length c0] w fun e w' => ∃ v0_ : Value, e = .returned (v0_) ∧ Kd.N k24 24 w' w.heap.size (fun k_ => (P0_ k_ ∨ w.heap.size ≤ k_)) v0_ r ∧ Below w.heap.size w w' := by
  unfold invert_All.f at h
  split at h
  · rename_i hl
    obtain rfl := Option.some.inj h
    exact callsIn_wide.1 (all_in w P0_ A0 c0 l0 (by omega) (Kd.V_at hs0).2.2)
  · cases h
end Go.Proofs.YthhohbidjhcjeaaDoor.Q
