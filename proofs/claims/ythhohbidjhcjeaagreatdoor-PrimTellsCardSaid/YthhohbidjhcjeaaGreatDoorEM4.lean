/- prim.data: data changed in a row of one's own. -/
import Derived.Test.YthhohbidjhcjeaaGreatDoorEM3
import Derived.Shelf.Spec.SlicesGrow
import Derived.Test.YthhohbidjhcjeaaGreatDoorEM2
import Derived.Sort.LoopGhostIn
import Derived.Maps.OwnIn
import Derived.Shelf.Strings.Builder1
import Derived.Shelf.SlSortCmp.WholeK
import Derived.Lib.OwnBridge
import Derived.Deep.LoopGhost
namespace Go.Proofs.YthhohbidjhcjeaaGreatDoor.H
open Go.RowKit Go.Shelf Go.Proofs.YthhohbidjhcjeaaGreatDoorW.PrintWords Go.Proofs.YthhohbidjhcjeaaGreatDoorW.PrintLast Go.Proofs.YthhohbidjhcjeaaGreatDoorW.PrintMore
open Go.Proofs.YthhohbidjhcjeaaGreatDoor.Q Go.Proofs.YthhohbidjhcjeaaGreatDoor.Pl
set_option linter.unusedVariables false
set_option linter.unusedSimpArgs false
structure Ent (cur : Array Value) (o : Nat) (x : S41) (X : Option Addr) (c : Nat) : Prop where
 c0 : cur[o]? = some (.string x.f0)
 c1 : cur[o + 1]? = some (.int .i64 x.f1)
 c2 : cur[o + 2]? = some (.slice X x.f2.length c)
 c3 : cur[o + 3]? = some (.string x.f3)
def SameBut (o : Nat) (cur cur' : Array Value) : Prop:=cur'.size = cur.size ∧ ∀ j,(j < o ∨ o + 4 ≤ j) → cur'[j]? = cur[j]?
def Chg (w : World) (p : S25) (x : S41) (g o : Nat) (cur : Array Value) (e : Ending) (W' : World) : Prop :=
 e = .returned (.bool (changeV x p).isSome) ∧ Below w.heap.size w W' ∧ ∃ cur',W'.heap[g]? = some (.cells cur' 41 (0,0)) ∧ SameBut o cur cur' ∧ ∀ y,changeV x p = some y → ∃ Y d,Ent cur' o y Y d ∧ Re W' y Y d
theorem ent_cells {W : World} {g o : Nat} {cur : Array Value} {x : S41} {X : Option Addr} {c : Nat} (hg : W.heap[g]? = some (.cells cur 41 (0,0))) (h : Ent cur o x X c) :
  W.cell? ⟨g,o,none⟩ = some (.string x.f0) ∧ W.cell? ⟨g,o + 1,none⟩ = some (.int .i64 x.f1) ∧ W.cell? ⟨g,o + 2,none⟩ = some (.slice X x.f2.length c) ∧ W.cell? ⟨g,o + 3,none⟩ = some (.string x.f3) :=
 ⟨(blk_cell hg _).trans h.c0,(blk_cell hg _).trans h.c1,(blk_cell hg _).trans h.c2,(blk_cell hg _).trans h.c3⟩
theorem same_set (o k : Nat) (hk : k < 4) (cur : Array Value) (u : Value) : SameBut o cur (cur.setIfInBounds (o + k) u):=by
 refine ⟨by simp,fun j hj => ?_⟩
 rw [Array.getElem?_setIfInBounds_ne (by omega)]
theorem ent_set3 {cur : Array Value} {o : Nat} {x : S41} {X : Option Addr} {c : Nat} (h : Ent cur o x X c) (s : ByteArray) : Ent (cur.setIfInBounds (o + 3) (.string s)) o { x with f3:=s } X c:=by
 refine ⟨?_,?_,?_,?_⟩
 ·rw [Array.getElem?_setIfInBounds_ne (by omega)]; exact h.c0
 ·rw [Array.getElem?_setIfInBounds_ne (by omega)]; exact h.c1
 ·rw [Array.getElem?_setIfInBounds_ne (by omega)]; exact h.c2
 ·have : o + 3 < cur.size:=(Array.getElem?_eq_some_iff.1 h.c3).1
  rw [Array.getElem?_setIfInBounds_self_of_lt this]
theorem ent_set2 {cur : Array Value} {o : Nat} {x : S41} {X : Option Addr} {c : Nat} (h : Ent cur o x X c) (l : List ByteArray) (Y : Option Addr) (d : Nat) : Ent (cur.setIfInBounds (o + 2) (.slice Y l.length d)) o { x with f2:=l } Y d:=by
 refine ⟨?_,?_,?_,?_⟩
 ·rw [Array.getElem?_setIfInBounds_ne (by omega)]; exact h.c0
 ·rw [Array.getElem?_setIfInBounds_ne (by omega)]; exact h.c1
 ·have : o + 2 < cur.size:=(Array.getElem?_eq_some_iff.1 h.c2).1
  rw [Array.getElem?_setIfInBounds_self_of_lt this]
 ·rw [Array.getElem?_setIfInBounds_ne (by omega)]; exact h.c3
set_option maxHeartbeats 4000000 in
set_option maxRecDepth 1000000 in
theorem data_at (w : World) (p : S25) (v5 v6 : Value) (x : S41) (X : Option Addr) (c g o : Nat) (cur : Array Value) (W : World) (h5 : v5.oneCell' = true) (h6 : v6.oneCell' = true) (h9 : p.f0 = 9)
  (hB : Below w.heap.size w W) (hg0 : w.heap.size ≤ g) (hg : W.heap[g]? = some (.cells cur 41 (0,0))) (hx : Ent cur o x X c) (rx : Re w x X c) :
  Calls Tryz.prog 57 #[.pointer (some ⟨g,o,none⟩),.agg #[.int .i64 p.f0,.string p.f1,.string p.f2,.string p.f3,.int .i64 p.f4,v5,v6]] W (Chg w p x g o cur):=by
 have hgw : g < W.heap.size:=blk_lt hg
 obtain ⟨b0,b1,b2,b3,b4,b5,b6⟩:=cells7 (blk_new W (.cells #[.int .i64 p.f0,.string p.f1,.string p.f2,.string p.f3,.int .i64 p.f4,v5,v6] 25))
 obtain ⟨c0,c1,c2,c3⟩:=ent_cells (blk_alloc hg (.cells #[.int .i64 p.f0,.string p.f1,.string p.f2,.string p.f3,.int .i64 p.f4,v5,v6] 25)) hx
 have f3:=blk_frozen (blk_alloc hg (.cells #[.int .i64 p.f0,.string p.f1,.string p.f2,.string p.f3,.int .i64 p.f4,v5,v6] 25)) (o + 3)
 have hgne : (g = W.heap.size) = False:=eq_false (by omega)
 have hc : changeV x p = if x.f3 = p.f3 then some { x with f3:=p.f2 } else none:=by unfold changeV; rw [if_neg (by omega),if_neg (by omega)]
 obtain ⟨r,hr⟩ : ∃ r,(x.f3.toList == p.f3.toList) = r:=⟨_,rfl⟩
 have hsome : Aside0 ((changeV x p).isSome = r):=⟨by
  rw [hc,← hr]
  by_cases k : x.f3 = p.f3
  ·rw [if_pos k,k]; simp
  ·rw [if_neg k]
   have : ¬ x.f3.toList = p.f3.toList:=fun e => k (toList_inj e)
   simp [this]⟩
 have hend : ∀ W',W' = ((W.setCell ⟨g,o + 3,none⟩ (.string p.f2)).alloc (.cells #[.int .i64 p.f0,.string p.f1,.string p.f2,.string p.f3,.int .i64 p.f4,v5,v6] 25)).drew → Chg w p x g o cur (.returned (.bool r)) W':=by
  rintro W' rfl
  have hb : Below w.heap.size w ((W.setCell ⟨g,o + 3,none⟩ (.string p.f2)).alloc (.cells #[.int .i64 p.f0,.string p.f1,.string p.f2,.string p.f3,.int .i64 p.f4,v5,v6] 25)).drew:=below_drew (below_alloc (below_set hB hg0) _)
  refine ⟨by rw [hsome.out],hb,_,blk_drew (blk_alloc (blk_set hg (o + 3) _) _),same_set o 3 (by omega) _ _,fun y hy => ?_⟩
  rw [hc] at hy
  split at hy
  ·rw [← Option.some.inj hy]
   exact ⟨X,c,ent_set3 hx _,⟨(rx.later hb).l,(rx.later hb).g⟩⟩
  ·cases hy
 have HEND:=Aside0.mk hend
 clear hend hc hx rx hB hg hg0 h9
 go_enter Tryz.func57,Tryz.ntmps57
 go_wp2
 go_region_held3 (fun U => U.cell? ⟨g,o + 3,none⟩ = some (.string x.f3) ∧ U.cell? ⟨W.heap.size,3,none⟩ = some (.string p.f3)) (exact ⟨c3,b3⟩) (fail)
 go_wp2
 go_ret
 exact HEND.out _ rfl
end Go.Proofs.YthhohbidjhcjeaaGreatDoor.H
namespace Go.Proofs
open Go.Shelf
def Tryz.growS_ren : Go.Shelf.Ren:=⟨fun | 4 => 160 | n => n,fun | 22 => 23 | 25 => 9 | 3 => 3 | 4 => 4 | 9 => 9 | 20 => 20 | 0 => 0 | n => n,fun | n => n⟩
theorem Tryz.growS : Go.Proofs.Lays8.n4 Tryz.prog Tryz.growS_ren:={
 mixed:=by kernel_rfl
 f4:=⟨Tryz.f160.name,by decide,Tryz.func160.trans (congrArg some (by kernel_rfl))⟩
 t0:=Tryz.underlying0
 a0:=Tryz.isAgg0
 z0:=Tryz.sizeOf0
 v0:=Tryz.zeroValue0
 t3:=Tryz.underlying3
 a3:=Tryz.isAgg3
 z3:=Tryz.sizeOf3
 v3:=Tryz.zeroValue3
 t4:=Tryz.underlying4
 a4:=Tryz.isAgg4
 z4:=Tryz.sizeOf4
 v4:=Tryz.zeroValue4
 t9:=Tryz.underlying9
 a9:=Tryz.isAgg9
 z9:=Tryz.sizeOf9
 v9:=Tryz.zeroValue9
 t20:=Tryz.underlying20
 a20:=Tryz.isAgg20
 z20:=Tryz.sizeOf20
 v20:=Tryz.zeroValue20
 t22:=Tryz.underlying23
 a22:=Tryz.isAgg23
 z22:=Tryz.sizeOf23
 v22:=Tryz.zeroValue23 }
end Go.Proofs
namespace Go.Proofs.YthhohbidjhcjeaaGreatDoor.H
open Go.RowKit Go.Proofs.YthhohbidjhcjeaaGreatDoorW.PrintWords Go.Proofs.YthhohbidjhcjeaaGreatDoorW.PrintLast Go.Proofs.YthhohbidjhcjeaaGreatDoorW.PrintMore
open Go.Proofs.YthhohbidjhcjeaaGreatDoor.Q Go.Proofs.YthhohbidjhcjeaaGreatDoor.Pl
set_option linter.unusedSimpArgs false
set_option linter.unusedVariables false
theorem infoS : (Tryz.prog.info? 9).map (fun i => (i.zero,i.size,i.bytes)) = some (some (.string ⟨#[]⟩),1,16):=by kernel_rfl
def Rs (x : ByteArray) (cs : List Value) : Prop:=cs = [.string x]
def RowS (w W : World) (v : Value) (xs : List ByteArray) : Prop:=OwnRow Rs 9 1 W w.heap.size v xs
theorem RowS.below {w W W' : World} {v : Value} {xs : List ByteArray} (h : RowS w W v xs) (hb : Below W.heap.size W W') : RowS w W' v xs:=OwnRow.below h hb
theorem RowS.slice {w W : World} {v : Value} {xs : List ByteArray} (h : RowS w W v xs) : ∃ A c,v = .slice A xs.length c ∧ xs.length ≤ c:=OwnRow.slice_ h
theorem rowS_nil (w W : World) : RowS w W (.slice none 0 0) []:=OwnRow.none_ _ _ _ _ _
theorem RowS.C {w W : World} {v : Value} {xs : List ByteArray} (h : RowS w W v xs) : ∃ A c,v = .slice A xs.length c ∧ xs.length ≤ c ∧ Kd.string.C W A xs.length xs:=by
 obtain ⟨A,c,rfl,hc,hr⟩:=OwnRow.reads h
 exact ⟨A,c,rfl,hc,ReadsRow.imp_ hr (Below.refl _ _) (fun p cl h => h)⟩
theorem rsS_one {ps : List ByteArray} {inner : List Value} (h : Reps Rs 1 ps inner) : ∀ u ∈ inner,u.oneCell' = true:=by
 intro u hu
 obtain ⟨j,hj,rfl⟩:=List.getElem_of_mem hu
 have hl:=h.1
 have hk:=h.2 j _ (List.getElem?_eq_getElem (show j < ps.length by omega))
 have hm : inner[j] ∈ (inner.drop (j * 1)).take 1:=by
  refine List.mem_of_getElem? (i:=0) ?_
  rw [List.getElem?_take_of_lt (by omega),List.getElem?_drop]
  simp [List.getElem?_eq_getElem hj]
 rw [hk,List.mem_singleton] at hm
 rw [hm]; rfl
set_option maxHeartbeats 4000000 in
theorem growS_at (w : World) (n : Nat) (W : World) (hB : Below w.heap.size w W) (hn : n ≤ 1256584717458) :
  Calls Tryz.prog 160 #[.slice none 0 0,.int .i64 (n : Int)] W fun e W' => ∃ v,e = .returned v ∧ RowS w W' v [] ∧ Below w.heap.size w W':=by
 rcases Nat.eq_zero_or_pos n with rfl | hp
 ·refine (Any8.slices_Grow_room Tryz.growS none 0 0 0 W (Nat.le_refl _) (by decide) (by decide) (Nat.le_refl _)).mono ?_
  rintro e W' ⟨rfl,rfl⟩
  exact ⟨_,rfl,rowS_nil _ _,hB⟩
 ·obtain ⟨i0,hi,hz0,hz1,hz2⟩:=info_parts infoS
  refine (Any8.slices_Grow_grow Tryz.growS i0 _ hi hz0 (by omega) none 0 0 n [] W (Nat.le_refl _) (by omega) (by rw [hz2,Nat.zero_add]; exact Nat.le_trans (Nat.mul_le_mul_right 16 hn) (by decide)) (by omega) (by simp) (fun _ => rfl) (fun a h => by cases h)).mono ?_
  rintro e W' ⟨rfl,rfl⟩
  refine ⟨_,rfl,⟨[],⟨by simp,Or.inr ⟨W.heap.size,_,_,rfl,hB.size,blk_new W.drew _,Nat.zero_le _,grownCap_le_maxLen _ _ _ _ (by unfold maxLen; omega),?_,by simp⟩⟩,Reps.none _ _⟩,below_alloc hB.drew _⟩
  have hg:=grownCap_ge W (0 + n) 0 (Tryz.growS_ren.t 25)
  simp only [Array.size_append,size_zeroCells]
  show 0 + (0 + n - 0) * 1 + (grownCap W (0 + n) 0 (Tryz.growS_ren.t 25) - (0 + n)) * 1 = grownCap W (0 + n) 0 (Tryz.growS_ren.t 25) * 1
  generalize grownCap W (0 + n) 0 (Tryz.growS_ren.t 25) = g at hg
  omega
def flatS (rs : List (Option Addr × Nat × List ByteArray)) : List ByteArray:=rs.flatMap (fun r => r.2.2)
theorem flat_take (rs : List (Option Addr × Nat × List ByteArray)) (i : Nat) (hi : i < rs.length) : flatS (rs.take (i + 1)) = flatS (rs.take i) ++ rs[i].2.2:=by
 unfold flatS
 rw [List.take_succ_eq_append_getElem hi,List.flatMap_append]
 simp
theorem flat_le (rs : List (Option Addr × Nat × List ByteArray)) (i : Nat) : (flatS (rs.take i)).length ≤ (flatS rs).length:=by
 unfold flatS
 conv => rhs; rw [← List.take_append_drop i rs,List.flatMap_append,List.length_append]
 omega
theorem reps_app {α : Type} {R : α → List Value → Prop} {size : Nat} {ps qs : List α} {cs ds : List Value} (h : Reps R size ps cs) (k : Reps R size qs ds) : Reps R size (ps ++ qs) (cs ++ ds):=by
 refine ⟨by rw [List.length_append,h.1,k.1,List.length_append,Nat.add_mul],fun j p hp => ?_⟩
 have hl:=h.1
 rcases Nat.lt_or_ge j ps.length with hj | hj
 ·rw [List.getElem?_append_left hj] at hp
  have hm : (j + 1) * size ≤ ps.length * size:=Nat.mul_le_mul_right _ hj
  rw [Nat.add_mul,Nat.one_mul] at hm
  rw [List.drop_append_of_le_length (by omega),List.take_append_of_le_length (by rw [List.length_drop]; omega)]
  exact h.2 j p hp
 ·rw [List.getElem?_append_right hj] at hp
  have hm : j * size = ps.length * size + (j - ps.length) * size:=by rw [← Nat.add_mul,Nat.add_sub_cancel' hj]
  rw [hm,← hl,List.drop_append]
  simp only [Nat.le_add_right,List.drop_eq_nil_of_le,List.nil_append,Nat.add_sub_cancel_left]
  exact k.2 _ p hp
set_option maxHeartbeats 4000000 in
set_option maxRecDepth 100000 in
theorem concatS_at (rs : List (Option Addr × Nat × List ByteArray)) (g c : Nat) (W : World) (hg : ∀ j r,rs[j]? = some r → W.cell? ⟨g,j,none⟩ = some (.slice r.1 r.2.2.length r.2.1)) (hr : ∀ r ∈ rs,ReadsRow Rs 1 W r.1 r.2.2.length r.2.2) (hn : (flatS rs).length ≤ 1256584717458) (hrs : rs.length ≤ 1000) :
  Calls Tryz.prog 136 #[.slice (some ⟨g,0,none⟩) rs.length c] W fun e W' => ∃ v,e = .returned v ∧ RowS W W' v (flatS rs) ∧ Below W.heap.size W W':=by
 replace hg:=Aside0.mk hg
 replace hr:=Aside0.mk hr
 go_enter Tryz.func136,Tryz.ntmps136
 go_wp2
 go_loopg [3,11] rs.length (fun kq v3 v11 w' => ∃ (i : Nat),v11 = .int .i64 (i : Int) ∧ v3 = .int .i64 ((flatS (rs.take i)).length : Int) ∧ Aside0 (i + kq = rs.length) ∧ W = w')
 case atStart => exact ⟨0,rfl,rfl,⟨by omega⟩,rfl⟩
 case round =>
  obtain ⟨i,rfl,rfl,hk,rfl⟩:=hrel
  by_cases hi : i < rs.length
  ·have c1b : decide ((i : Int) < (rs.length : Int)) = true:=decide_eq_true (by omega)
   have i0 : (0 : Int) ≤ (i : Int):=by omega
   have i1 : (i : Int) < (rs.length : Int):=by omega
   have hx:=hg.out i _ (List.getElem?_eq_getElem hi)
   have hf:=flat_take rs i hi
   have hle:=flat_le rs (i + 1)
   rw [hf,List.length_append] at hle
   have hwi : IntKind.i64.wrap ((i : Int) + 1) = (i : Int) + 1:=wrap_small _ (by omega) (by omega)
   have hws : IntKind.i64.wrap (((flatS (rs.take i)).length : Int) + (rs[i].2.2.length : Int)) = ((flatS (rs.take i)).length : Int) + (rs[i].2.2.length : Int):=wrap_small _ (by omega) (by omega)
   have hneg : decide (((flatS (rs.take i)).length : Int) + (rs[i].2.2.length : Int) < 0) = false:=decide_eq_false (by omega)
   replace hf:=Aside0.mk hf
   clear hle
   go_wp2
   go_roundg (rs.length - (i + 1))
   case measure => have:=hk.out; omega
   case rel => exact ⟨i + 1,by simp,by rw [hf.out,List.length_append]; simp,⟨by omega⟩,rfl⟩
  ·have c1b : decide ((i : Int) < (rs.length : Int)) = false:=decide_eq_false (by omega)
   have hil : i = rs.length:=by have:=hk.out; omega
   have hfl : flatS (rs.take i) = flatS rs:=by rw [hil,List.take_length]
   rw [hfl]
   clear hfl hk
   go_wp2_with (fail)
   refine (growS_at W (flatS rs).length W (Below.refl _ _) hn).mono ?_
   rintro e w2 ⟨v,rfl,hR,hB⟩
   replace hR:=Aside0.mk hR
   replace hB:=Aside0.mk hB
   go_wp2
   obtain ⟨i0',hi',hz0,hz1,hz2⟩:=info_parts infoS
   replace hi':=Aside0.mk hi'
   replace hz0:=Aside0.mk hz0
   replace hz1:=Aside0.mk hz1
   replace hz2:=Aside0.mk hz2
   go_loopg [6,27] rs.length (fun kq v6 v27 w' => ∃ (i : Nat),v27 = .int .i64 (i : Int) ∧ Aside0 (i + kq = rs.length) ∧ Aside0 (RowS W w' v6 (flatS (rs.take i))) ∧ Aside0 (Below W.heap.size W w'))
   case atStart => exact ⟨0,rfl,⟨by omega⟩,hR,hB⟩
   case round =>
    clear i hi c1b hil hR hB
    obtain ⟨i,rfl,hk,hR,hB⟩:=hrel
    by_cases hi : i < rs.length
    ·have c1b : decide ((i : Int) < (rs.length : Int)) = true:=decide_eq_true (by omega)
     have i0 : (0 : Int) ≤ (i : Int):=by omega
     have i1 : (i : Int) < (rs.length : Int):=by omega
     have hx:=pw_cell_below hB.out (hg.out i _ (List.getElem?_eq_getElem hi))
     have hrr:=hr.out _ (List.getElem_mem hi)
     have hf:=flat_take rs i hi
     have hle:=flat_le rs (i + 1)
     rw [hf,List.length_append] at hle
     have hwi : IntKind.i64.wrap ((i : Int) + 1) = (i : Int) + 1:=wrap_small _ (by omega) (by omega)
     replace hf:=Aside0.mk hf
     obtain ⟨⟨A,c2,xs⟩,hrx⟩ : ∃ r,r = rs[i]:=⟨_,rfl⟩
     rw [← hrx] at hx hrr hf hle
     clear hrx
     simp only at hx hrr hf hle
     cases A with
     | none =>
      have hl0 : xs = []:=List.eq_nil_of_length_eq_zero (by
       rcases Nat.eq_zero_or_pos xs.length with h0 | h0
       ·exact h0
       ·obtain ⟨ad,he,_⟩:=hrr.2.2 h0
        cases he)
      subst hl0
      obtain ⟨A6,c6,rfl,hc6⟩:=hR.out.slice
      clear hrr hle
      go_wp2
      all_goals (try simp only [Sem.run_pure,Result.andThen_ok])
      all_goals go_wp2
      all_goals
       go_roundg (rs.length - (i + 1))
       case measure => have:=hk.out; omega
       case rel => exact ⟨i + 1,by simp,⟨by omega⟩,⟨by rw [hf.out,List.append_nil]; exact hR.out⟩,hB⟩
     | some ad =>
      obtain ⟨inner,hri,hci⟩:=hrr.inner_
      obtain ⟨inner6,hown,hr6⟩:=hR.out
      have h1:=Aside0.mk (rsS_one hri)
      have hl:=Aside0.mk hri.1
      have hn1 : Aside0 ((flatS (rs.take i)).length + xs.length ≤ maxLen):=⟨by unfold maxLen; omega⟩
      have hn2 : Aside0 (((flatS (rs.take i)).length + xs.length) * 16 ≤ 140737488355328):=⟨Nat.le_trans (Nat.mul_le_mul_right 16 (Nat.le_trans hle hn)) (by decide)⟩
      replace hown:=Aside0.mk hown
      replace hr6:=Aside0.mk hr6
      replace hri:=Aside0.mk hri
      replace hci:=Aside0.mk hci
      clear hrr hle
      go_wp2_with (at_builtin; refine wpList_append_own_at _ rfl _ _ 23 rfl W.heap.size 9 i0' _ 1 16 Tryz.underlying23 hi'.out hz0.out hz1.out hz2.out rfl (by omega) _ _ _ rfl hown.out ad xs.length c2 inner rfl hl.out ?qc2 h1.out hn1.out hn2.out hB.out.size ?_)
      case qc2 => exact fun j u hj => pw_cell_below hB.out (hci.out j u hj)
      intro v' w1 hown1 hgrow hnil hblk
      have hB1 : Aside0 (Below W.heap.size W w1):=⟨hB.out.grown hgrow hB.out.size (by
       intro k hk
       rcases hown.out.2 with ⟨rfl,_⟩ | ⟨g6,cap,cur,rfl,hb,_⟩
       ·cases hk
       ·simp [Value.ownBlock] at hk; omega)⟩
      have hR1 : Aside0 (RowS W w1 v' (flatS (rs.take (i + 1)))):=⟨by
       rw [hf.out]
       exact ⟨inner6 ++ inner,by rw [List.length_append]; exact hown1,reps_app hr6.out hri.out⟩⟩
      clear hown1 hgrow hnil hblk
      go_wp2
      go_roundg (rs.length - (i + 1))
      case measure => have:=hk.out; omega
      case rel => exact ⟨i + 1,by simp,⟨by omega⟩,hR1,hB1⟩
    ·have c1b : decide ((i : Int) < (rs.length : Int)) = false:=decide_eq_false (by omega)
     have hil : i = rs.length:=by have:=hk.out; omega
     have hfl : Aside0 (flatS (rs.take i) = flatS rs):=⟨by rw [hil,List.take_length]⟩
     clear hk
     go_wp2
     go_ret
     exact ⟨_,rfl,by rw [← hfl.out]; exact hR.out,hB.out⟩
open Go.RowKit Go.Shelf Go.Proofs.YthhohbidjhcjeaaGreatDoorW.PrintWords Go.Proofs.YthhohbidjhcjeaaGreatDoorW.PrintLast Go.Proofs.YthhohbidjhcjeaaGreatDoorW.PrintMore
open Go.Proofs.YthhohbidjhcjeaaGreatDoor.Q Go.Proofs.YthhohbidjhcjeaaGreatDoor.Pl Go.Proofs.YthhohbidjhcjeaaGreatDoor.RB
def pieceP (r : List UInt8) : ByteArray × Bool:=(⟨r.toArray⟩,match r.head? with | some c => inU c | none => false)
def piecesP (s : ByteArray) : List (ByteArray × Bool):=(runs s.data.toList).map pieceP
theorem piecesP_nil : piecesP ⟨#[]⟩ = []:=rfl
theorem runs_head {s : List UInt8} {n : Nat} {b : Bool} (hn : 0 < n) (hl : n ≤ s.length) (hu : ∀ c ∈ s.take n,inU c = b) (hd : ∀ c,s[n]? = some c → inU c ≠ b) : runs s = s.take n :: runs (s.drop n):=by
 have h : Uni b (s.take n):=⟨fun e => by have:=congrArg List.length e; rw [List.length_take,List.length_nil] at this; omega,hu⟩
 conv => lhs; rw [← List.take_append_drop n s]
 refine runs_cons h ?_
 intro r' hr'
 cases hs : runs (s.drop n) with
 | nil => rw [hs] at hr'; cases hr'
 | cons r rest =>
  rw [hs] at hr'
  rw [List.head?_cons,Option.mem_some_iff] at hr'
  subst hr'
  have ha:=alt_runs (s.drop n)
  rw [hs] at ha
  obtain ⟨b',hub,_,_⟩:=ha
  have hne:=hub.1
  obtain ⟨c,t,rfl⟩:=List.exists_cons_of_ne_nil hne
  have hc : s[n]? = some c:=by
   have h1:=runs_flat (s.drop n)
   rw [hs] at h1
   have h2 : (s.drop n)[0]? = some c:=by rw [← h1]; rfl
   rw [List.getElem?_drop] at h2
   simpa using h2
  have h3:=hub.2 c (by simp)
  have h4:=hd c hc
  rw [h3] at h4
  have : b' = !b:=by cases b <;> cases b' <;> simp_all
  rw [← this]; exact hub
theorem piecesP_head {s : ByteArray} {n : Nat} {b : Bool} (hn : 0 < n) (hl : n ≤ s.size) (hu : ∀ c ∈ s.data.toList.take n,inU c = b) (hd : ∀ c,s.data.toList[n]? = some c → inU c ≠ b) : piecesP s = (s.extract 0 n,b) :: piecesP (s.extract n s.size):=by
 unfold piecesP
 have hl' : n ≤ s.data.toList.length:=by rw [dlen]; exact hl
 rw [runs_head hn hl' hu hd,List.map_cons]
 have e1 : (s.extract n s.size).data.toList = s.data.toList.drop n:=by rw [extract_data,List.take_of_length_le (by rw [dlen]; exact Nat.le_refl _)]
 rw [e1]
 congr 1
 unfold pieceP
 congr 1
 ·exact data_inj (by rw [extract_data,List.drop_zero])
 ·cases hs : s.data.toList.take n with
  | nil => have:=congrArg List.length hs; rw [List.length_take,List.length_nil] at this; omega
  | cons c t => rw [List.head?_cons]; exact hu c (by rw [hs]; simp)
set_option maxRecDepth 100000 in
set_option maxHeartbeats 4000000 in
theorem pieces_gives (n : Nat) (hn : 1 ≤ n) (B : Nat) (s : ByteArray) (w : World) (hs : s.size ≤ 140737488355328) (bs : Boxed w B 9 (.string s)) :
  SeqG Fence.wide n Tryz.prog 161 #[.pointer (some ⟨B,0,none⟩)] (fun y : ByteArray × Bool => #[.string y.1,.bool y.2]) (fun W W' => W'.heap[B]? = W.heap[B]?) (fun r => r = B)
   (fun ys => ys = piecesP s) (fun pre => pre <+: piecesP s) (fun pre x => pre ++ [x] <+: piecesP s) w:=by
 intro l J Jx W hW hJ hJx hY h0
 replace bs : Boxed W B 9 (.string s):=(hW.block _ bs.lt).trans bs
 clear hW
 show CallsIn Fence.wide n Tryz.prog 161 #[.func (.yield l) #[] #[],.pointer (some ⟨B,0,none⟩)] W _
 refine callsIn_of_wp Tryz.func161 rfl trivial ?_ rfl
 simp only [Tryz.ntmps161,List.size_toArray,List.length_cons,List.length_nil,Nat.reduceAdd,Nat.reduceSub,Array.replicate_succ,Array.replicate_zero,List.push_toArray,List.append_toArray,List.nil_append,List.cons_append]
 gi_wp2
 gi_loopw [] (fun wr => ∃ (cur : ByteArray) (pre : List (ByteArray × Bool)),J pre wr ∧ Boxed wr B 9 (.string cur) ∧ cur.size ≤ 140737488355328 ∧ pre ++ piecesP cur = piecesP s)
  (fun wr => sizeAt B wr)
 case atStart => exact ⟨s,[],h0,bs,hs,rfl⟩
 case round =>
  clear bs h0 hs
  obtain ⟨cur,pre,hJ0,bs,hc,hpc⟩:=hrel
  have cs:=bs.cell
  have fs:=bs.frozen
  by_cases hz : cur.size = 0
  ·have hcur : cur = ⟨#[]⟩:=data_inj (by
    have h1 : cur.data.toList.length = 0:=by rw [dlen]; exact hz
    exact List.length_eq_zero_iff.mp h1)
   subst hcur
   have HPC:=Lib.hid hpc
   clear hpc
   gi_wp2
   go_end0
   exact ⟨⟨_,rfl⟩,.inl ⟨pre,by rw [← HPC.out,piecesP_nil,List.append_nil],hJ0⟩⟩
  ·have hne : (cur.toList != []) = true:=by
    rw [bne_iff_ne]
    intro e
    have:=size_toList cur
    rw [e] at this
    simp at this
    omega
   have hne2 : (cur.toList == []) = false:=by simpa using hne
   have hp0 : (0 : Int) < (cur.size : Int):=by omega
   have HPC:=Lib.hid hpc
   have hIn:=fun c W => lines_in.calls c (inB c) W (in_f c)
   clear hpc
   gi_wp2_with (refine ⟨trivial,?_⟩; gi_at_call 113; refine (callsIn_wide.2 (hIn _ _)).mono ?_; rintro e w1 ⟨rfl,m,rfl⟩)
   have hz0 : 0 < cur.size:=by omega
   have hb0 : inB ((cur[0]'hz0).toNat : Int) = inU (cur.data.toList[0]'(by rw [dlen]; exact hz0)):=by unfold inU; congr 2
   obtain ⟨b,hb⟩ : ∃ b,inU (cur.data.toList[0]'(by rw [dlen]; exact hz0)) = b:=⟨_,rfl⟩
   rw [hb] at hb0
   rw [hb0]
   have HB:=Lib.hid hb
   clear hb hb0
   have hJd : ∀ (U : World) (q : Nat),J pre U → J pre (U.drewN q):=fun U q h => hJ _ _ _ none h ⟨rfl,rfl,rfl,Nat.le_refl _,fun _ _ _ => rfl⟩ (fun r e => by cases e)
   gi_loopg [4] (cur.size - 1) (fun kx s4 w2 => ∃ k : Nat,s4 = .int .i64 k ∧ k + kx = cur.size ∧ 1 ≤ k ∧ J pre w2 ∧ Boxed w2 B 9 (.string cur) ∧ Hid (∀ j (hj : j < cur.data.toList.length),j < k → inU cur.data.toList[j] = b))
   case atStart =>
    refine ⟨1,rfl,by omega,Nat.le_refl _,hJd _ _ hJ0,bs,Lib.hid ?_⟩
    intro j hj hj1
    obtain rfl : j = 0:=by omega
    exact HB.out
   case round =>
    have hbs0:=bs
    clear hJ0 bs cs fs
    obtain ⟨k,rfl,hk,hk1,hJ0,bs,HU⟩:=hrel
    have cs:=bs.cell
    have fs:=bs.frozen
    have hes : (cur.extract k cur.size).size = cur.size - k:=by simp
    have hall : Hid (∀ c ∈ cur.data.toList.take k,inU c = b):=Lib.hid (by
     intro c hc'
     obtain ⟨j,hj,rfl⟩:=List.getElem_of_mem hc'
     rw [List.length_take] at hj
     rw [List.getElem_take]
     exact HU.out j (by omega) (by omega))
    by_cases hlt : k < cur.size
    ·have hkd : decide ((k : Int) < (cur.size : Int)) = true:=decide_eq_true (by omega)
     have hk0 : (0 : Int) ≤ (k : Int):=by omega
     have hki : (k : Int) < (cur.size : Int):=by omega
     have hwk : IntKind.i64.wrap ((k : Int) + 1) = ((k + 1 : Nat) : Int):=by rw [wrap_small _ (by omega) (by omega)]; omega
     have hbk : inB ((cur[k]'hlt).toNat : Int) = inU (cur.data.toList[k]'(by rw [dlen]; exact hlt)):=by unfold inU; congr 2
     obtain ⟨bk,hbk2⟩ : ∃ bk,inU (cur.data.toList[k]'(by rw [dlen]; exact hlt)) = bk:=⟨_,rfl⟩
     rw [hbk2] at hbk
     have HBK:=Lib.hid hbk2
     clear hbk2
     by_cases hbb : bk = b
     ·subst hbb
      have hbeq : (bk == bk) = true:=by simp
      gi_wp2_with (refine ⟨trivial,?_⟩; gi_at_call 113; refine (callsIn_wide.2 (hIn _ _)).mono ?_; rintro e w1 ⟨rfl,m2,rfl⟩)
      go_roundg (cur.size - (k + 1))
      case measure => omega
      case rel =>
       refine ⟨k + 1,by first | rfl | (rw [hwk]),by omega,by omega,hJd _ _ hJ0,bs,Lib.hid ?_⟩
       intro j hj hjk
       rcases Nat.lt_or_ge j k with h | h
       ·exact HU.out j hj h
       ·obtain rfl : j = k:=by omega
        exact HBK.out
     ·have hbeq : (bk == b) = false:=by rw [beq_eq_false_iff_ne]; exact hbb
      have hhead:=piecesP_head (s:=cur) (n:=k) (b:=b) (by omega) (by omega) hall.out (fun c hc2 => by
       rw [List.getElem?_eq_getElem (by rw [dlen]; exact hlt)] at hc2
       rw [← Option.some.inj hc2,HBK.out]; exact hbb)
      have hlen : pre ++ [(cur.extract 0 k,b)] <+: piecesP s:=by rw [← HPC.out,hhead]; exact ⟨_,List.append_assoc _ _ _⟩
      have hhead':=Lib.hid hhead
      clear hhead
      gi_wp2_with (refine ⟨trivial,?_⟩; gi_at_call 113; refine (callsIn_wide.2 (hIn _ _)).mono ?_; rintro e w1 ⟨rfl,m2,rfl⟩; obtain ⟨fn,tmps,assign,body,hy,hR⟩:=hY pre (cur.extract 0 k,b) (wr.drewN m2) (hJd _ _ hJ0) hlen)
      have hhead:=hhead'.out
      have bs' : Boxed (wr.drewN m2) B 9 (.string cur):=bs
      refine hR.mono ?_
      rintro e W3 (⟨rfl,hJ3,hk3⟩ | ⟨rfl,hJx3⟩)
      ·have bs3:=boxed_of bs' hk3
       have cs3:=bs3.cell
       have fs3:=bs3.frozen
       gi_wp2
       go_roundw
       case rel => exact ⟨cur.extract k cur.size,pre ++ [(cur.extract 0 k,b)],hJ _ _ _ _ hJ3 (grownBy_setCell' _ _ _) (fun r e => .inr (Option.some.inj e).symm),bs3.set _,by rw [hes]; omega,by rw [← HPC.out,hhead]; simp⟩
       case measure =>
        rw [sizeAt_of (bs3.set _),sizeAt_of hbs0]
        rw [hes]
        omega
      ·gi_wp2
       refine bodyPost_ret (results_none rfl _ _ _) rfl ?_
       exact ⟨⟨_,rfl⟩,.inr ⟨pre ++ [(cur.extract 0 k,b)],by rw [← HPC.out,hhead]; exact ⟨piecesP (cur.extract k cur.size),by simp⟩,hJx3⟩⟩
    ·have hke : k = cur.size:=by omega
     have hkd : decide ((k : Int) < (cur.size : Int)) = false:=decide_eq_false (by omega)
     have hhead:=piecesP_head (s:=cur) (n:=k) (b:=b) (by omega) (by omega) hall.out (fun c hc2 => by
      rw [List.getElem?_eq_none (by rw [dlen]; omega)] at hc2
      cases hc2)
     have hlen : pre ++ [(cur.extract 0 k,b)] <+: piecesP s:=by rw [← HPC.out,hhead]; exact ⟨_,List.append_assoc _ _ _⟩
     have hhead':=Lib.hid hhead
     clear hhead
     have hk0 : (0 : Int) ≤ (k : Int):=by omega
     have hki : (k : Int) ≤ (cur.size : Int):=by omega
     obtain ⟨fn,tmps,assign,body,hy,hR⟩:=hY pre (cur.extract 0 k,b) wr hJ0 hlen
     have HKE:=Lib.hid hke
     clear hke
     gi_wp2
     refine ⟨trivial,?_⟩
     gi_wp2
     have hhead:=hhead'.out
     have bs' : Boxed wr B 9 (.string cur):=bs
     refine hR.mono ?_
     rintro e W3 (⟨rfl,hJ3,hk3⟩ | ⟨rfl,hJx3⟩)
     ·have bs3:=boxed_of bs' hk3
      have cs3:=bs3.cell
      have fs3:=bs3.frozen
      gi_wp2
      go_roundw
      case rel => exact ⟨cur.extract k cur.size,pre ++ [(cur.extract 0 k,b)],hJ _ _ _ _ hJ3 (grownBy_setCell' _ _ _) (fun r e => .inr (Option.some.inj e).symm),bs3.set _,by rw [hes]; omega,by rw [← HPC.out,hhead]; simp⟩
      case measure =>
       rw [sizeAt_of (bs3.set _),sizeAt_of hbs0]
       rw [hes]
       omega
     ·gi_wp2
      refine bodyPost_ret (results_none rfl _ _ _) rfl ?_
      exact ⟨⟨_,rfl⟩,.inr ⟨pre ++ [(cur.extract 0 k,b)],by rw [← HPC.out,hhead]; exact ⟨piecesP (cur.extract k cur.size),by simp⟩,hJx3⟩⟩
theorem pieces_stops (n : Nat) (hn : 1 ≤ n) (B : Nat) (s : ByteArray) (w : World) (hs : s.size ≤ 140737488355328) (bs : Boxed w B 9 (.string s)) :
  SeqZ Fence.wide n Tryz.prog 161 #[.pointer (some ⟨B,0,none⟩)] (fun y : ByteArray × Bool => #[.string y.1,.bool y.2]) (fun W W' => W'.heap[B]? = W.heap[B]?) (fun r => r = B)
   (fun ys => ys = piecesP s) (fun pre => pre <+: piecesP s) (piecesP s).length w:=fun l J Jx W hW hJ hJx hY h0 =>
 pieces_gives n hn B s w hs bs l J Jx W hW hJ hJx (fun pre x W1 h hp => hY pre x W1 h (by have:=hp.length_le; simp at this; omega)) h0
attribute [local go_sem] Oper.semAt_some
theorem pieces_in (n : Nat) (s : ByteArray) (w : World) :
  CallsIn Fence.wide n Tryz.prog 138 #[.string s] w fun e w' => e = .returned (.func (.func 161) #[] #[.pointer (some ⟨w.heap.size,0,none⟩)]) ∧ w' = w.alloc (.cells #[.string s] 9):=by
 refine callsIn_of_wp Tryz.func138 rfl trivial ?_ rfl
 simp only [Tryz.ntmps138,List.size_toArray,List.length_cons,List.length_nil,Nat.reduceAdd,Nat.reduceSub,Array.replicate_succ,Array.replicate_zero,List.push_toArray,List.append_toArray,List.nil_append,List.cons_append]
 gi_wp2
 go_ret
 exact ⟨rfl,rfl⟩
theorem piecesP_len (s : ByteArray) : (piecesP s).length ≤ s.size:=by
 have key : ∀ l : List UInt8,(runs l).length ≤ l.length:=by
  intro l
  induction l with
  | nil => exact Nat.le_refl _
  | cons c l ih =>
   rw [runs_eq]
   split
   ·rename_i d r rest hr
    rw [hr] at ih
    simp only [List.length_cons] at ih ⊢
    split <;> simp only [List.length_cons] <;> omega
   ·simp
 unfold piecesP
 rw [List.length_map,← dlen]
 exact key _
theorem piecesP_fst (s : ByteArray) : (piecesP s).map (·.1) = piecesV s:=by
 unfold piecesP piecesV
 rw [List.map_map]
 rfl
set_option maxRecDepth 100000 in
set_option maxHeartbeats 4000000 in
theorem tokens_in (s : ByteArray) (w : World) (hs : s.size ≤ 1000000000) :
  CallsIn Fence.wide 6 Tryz.prog 103 #[.string s] w fun e w' => ∃ v,e = .returned v ∧ RowS w w' v (piecesV s) ∧ Below w.heap.size w w':=by
 refine callsIn_of_wp_marks Tryz.func103 rfl trivial ?_ rfl
 simp only [Tryz.ntmps103,List.size_toArray,List.length_cons,List.length_nil,Nat.reduceAdd,Nat.reduceSub,Array.replicate_succ,Array.replicate_zero,List.push_toArray,List.append_toArray,List.nil_append,List.cons_append]
 gi_wp2_with (refine ⟨trivial,?_⟩; gi_at_call 138; refine (pieces_in _ _ _).mono ?_; rintro e w1 ⟨rfl,rfl⟩)
 have bR:=(Boxed.new w 23 (.slice none 0 0)).alloc (.cells #[.string s] 9)
 have bs:=Boxed.new (w.alloc (.cells #[.slice none 0 0] 23)) 9 (.string s)
 simp only [World.size_alloc] at bs
 have hB0 : Below w.heap.size w ((w.alloc (.cells #[.slice none 0 0] 23)).alloc (.cells #[.string s] 9)):=((Below.refl _ w).alloc (Nat.le_refl _) _).alloc (by simp) _
 have hsz : ((w.alloc (.cells #[.slice none 0 0] 23)).alloc (.cells #[.string s] 9)).heap.size = w.heap.size + 2:=by simp
 obtain ⟨W0,hW0⟩ : ∃ W0,((w.alloc (.cells #[.slice none 0 0] 23)).alloc (.cells #[.string s] 9)) = W0:=⟨_,rfl⟩
 rw [hW0] at bR bs hB0 hsz ⊢
 clear hW0
 have hpl:=piecesP_len s
 obtain ⟨i0,hi0,hz0,hz1,hz2⟩:=info_parts infoS
 refine wpIn_rangeFunc_boxes (F:=Fence.wide) (α:=ByteArray × Bool) (Z:=fun r => r = w.heap.size + 1) rfl (by omega) (gf:=161)
  (lb:=#[.pointer (some ⟨w.heap.size + 1,0,none⟩)]) rfl trivial (enters_of Tryz.func161 (by kernel_rfl) rfl)
  (pieces_stops 5 (by omega) (w.heap.size + 1) s W0 (by omega) bs) (fun r e => by omega) ?kt ?kb (Below.refl _ _) (fun _ => rfl)
  (fun pre W => ∃ v,Boxed W w.heap.size 23 v ∧ OwnRow Rs 9 1 W (w.heap.size + 2) v (pre.map (·.1)) ∧ Below w.heap.size w W ∧ w.heap.size + 2 ≤ W.heap.size)
  (fun _ pre W => False)
  ?own ?ownx ⟨_,bR,OwnRow.none_ _ _ _ _ _,hB0,by omega⟩
  (fun x => { tmps:=#[.string s,undef,.slice none 0 0,.pointer (some ⟨w.heap.size,0,none⟩),.string x.1,.string s,.func (.func 161) #[] #[.pointer (some ⟨w.heap.size + 1,0,none⟩)],.string x.1,.bool x.2,undef,undef,undef,undef,undef],defers:=[] })
  ?assign ?body ?done ?stop
 case kt => exact fun h k => k.trans h
 case kb => exact fun W l o o' hl _ _ _ => World.putObj_heap_other (by omega)
 case own =>
  rintro pre X Y row ⟨v,h1,h2,h4,h6⟩ hg hr
  have ne : ∀ B t v,Boxed X B t v → B ≠ w.heap.size + 1 → some B ≠ row:=fun B t v hb hB e => by
   rcases hr B e.symm with ⟨_,o,ho,hc⟩ | h5
   ·rw [show X.heap[B]? = _ from hb] at ho
    cases ho
    cases hc
   ·exact hB h5
  refine ⟨v,h1.kept hg (ne _ _ _ h1 (by omega)),OwnRow.other h2 hg ?_,Below.grown h4 hg (by have:=h1.lt; omega) (fun r e => by rcases hr r e with ⟨h5,_⟩ | h5 <;> omega),Nat.le_trans h6 hg.size⟩
  obtain ⟨inner,⟨_,ho⟩,_⟩:=h2
  rcases ho with ⟨rfl,_⟩ | ⟨g,cap,cur,rfl,hg0,hh,_⟩
  ·exact .inl rfl
  ·right
   intro e
   rcases hr g e.symm with ⟨_,o,ho,hc⟩ | h5
   ·rw [hh] at ho
    cases ho
    cases hc
   ·omega
 case ownx => exact fun _ pre X Y row h _ _ => h.elim
 case assign =>
  intro l x W K hK
  gi_wp2
  exact hK
 case body =>
  rintro l pre x W ⟨v,h1,h2,h4,h6⟩ hlt
  obtain ⟨inner,hown,hrp⟩:=h2
  have c1:=h1.cell
  have f1:=h1.frozen
  have hlm : (pre.map (·.1)).length = pre.length:=List.length_map ..
  rw [hlm] at hown
  have hn1 : pre.length + 1 ≤ maxLen:=by unfold maxLen; omega
  have hn2 : (pre.length + 1) * 16 ≤ 140737488355328:=Nat.le_trans (Nat.mul_le_mul_right 16 (show pre.length + 1 ≤ 1000000001 by omega)) (by decide)
  have HOWN:=Lib.hid hown
  have HRP:=Lib.hid hrp
  have HN1:=Lib.hid hn1
  have HN2:=Lib.hid hn2
  have HI0:=Lib.hid hi0
  have HZ0:=Lib.hid hz0
  have HZ1:=Lib.hid hz1
  have HZ2:=Lib.hid hz2
  clear hown hrp hn1 hn2 hi0 hz0 hz1 hz2
  have hA : Below W.heap.size W (W.alloc (.cells #[.string x.1] 9)):=(Below.refl _ _).alloc (Nat.le_refl _) _
  have hown2:=pw_own_below HOWN.out hA
  have bA:=h1.alloc (.cells #[.string x.1] 9)
  have hnews : ∀ j u,[Value.string x.1][j]? = some u → (W.alloc (.cells #[.string x.1] 9)).cell? ((⟨W.heap.size,0,none⟩ : Addr).add j) = some u:=by
   intro j u hu
   have hj : j = 0:=by
    have:=(List.getElem?_eq_some_iff.1 hu).1
    simp at this
    exact this
   subst hj
   simp only [List.getElem?_cons_zero,Option.some.injEq] at hu
   subst hu
   exact (Boxed.new W 9 (.string x.1)).cell
  have HNEWS:=Lib.hid hnews
  have HOWN2:=Lib.hid hown2
  have hne0 : some w.heap.size ≠ v.ownBlock:=fun e => by have:=own_base HOWN.out _ e.symm; omega
  clear hown2 hnews
  gi_wp2_with (gi_at_builtin; refine wpListIn_append_own_at _ rfl _ _ 23 rfl (w.heap.size + 2) 9 i0 _ 1 16 Tryz.underlying23 HI0.out HZ0.out HZ1.out HZ2.out rfl (by omega) _ _ _ rfl HOWN2.out ⟨W.heap.size,0,none⟩ 1 1 [.string x.1] rfl rfl HNEWS.out (by simp [Value.oneCell']) HN1.out HN2.out (by simp only [World.size_alloc]; omega) ?_; intro v' w2 hown3 hg hnil hat; obtain ⟨A,cc,rfl⟩:=own_slice hown3; have b2:=bA.kept hg hne0; have c2:=b2.cell; have f2:=b2.frozen)
  have hszg:=hg.size
  rw [World.size_alloc] at hszg
  have hrow : OwnRow Rs 9 1 w2 (w.heap.size + 2) (.slice A (pre.length + 1) cc) ((pre ++ [x]).map (·.1)):=by
   rw [List.map_append]
   refine ⟨_,?_,Reps.snoc (c:=[.string x.1]) (p:=x.1) HRP.out rfl rfl⟩
   rw [List.length_append,hlm]
   exact hown3
  have hke : KeepsOthers W w2:=(KeepsOthers.alloc _ _).trans (KeepsOthers.of_grownBy hg fun j o hj ho => by
   obtain ⟨_,⟨rfl,_⟩ | ⟨g,cap,cur,rfl,hg0,hh,_⟩⟩:=HOWN.out
   ·cases hj
   ·cases hj
    rw [Below.heap_alloc _ _ _ (Array.getElem?_eq_some_iff.1 hh).1,hh] at ho
    cases ho
    rfl)
  refine ⟨(hke.trans (KeepsOthers.setCell _ _ _)).from _,?_,_,b2.set _,OwnRow.set_ hrow b2 (by decide) _ _,?_,?_⟩
  ·refine ((grownBy_setCell' w2 w.heap.size _).block (w.heap.size + 1) (by omega) (by simp)).trans ((hg.block (w.heap.size + 1) (by simp only [World.size_alloc]; omega) (fun e => by have:=own_base HOWN.out _ e.symm; omega)).trans (hA.block _ (by omega)))
  ·refine Below.setCell (p:=⟨w.heap.size,0,none⟩) ?_ (Nat.le_refl _) _
   refine Below.grown (h4.trans (hA.mono h4.size)) hg (by simp only [World.size_alloc]; omega) (fun r e => ?_)
   have:=own_base HOWN.out r e
   show w.heap.size ≤ r
   omega
  ·rw [World.size_setCell]
   omega
 case done =>
  rintro D xs W hD hS ⟨v,h1,h2,h4,h6⟩ hdf
  have hr : xs.map (·.1) = piecesV s:=by rw [← piecesP_fst]; exact congrArg _ hS
  rw [hr] at h2
  obtain ⟨A,cc,rfl,hcc⟩:=OwnRow.slice_ h2
  obtain ⟨N,hN⟩ : ∃ N,(piecesV s).length = N:=⟨_,rfl⟩
  rw [hN] at h1 h2
  have c1:=h1.cell
  clear hS hr
  gi_wp2
  refine ⟨by simp,.inl ⟨_,_,rfl,run_takeDeferred hdf,?_⟩⟩
  refine ⟨.slice A N cc,by simp [results,Tryz.results103,go_sem],⟨.slice A N cc,rfl,?_,?_⟩⟩
  ·obtain ⟨inner,hown,hrp⟩:=h2
   exact OwnRow.lower ⟨inner,ownsRow_putObj hown _ hdf rfl,hrp⟩ (by omega)
  ·exact Below.trans h4 (belowK_b (w:=w) (Nat.le_refl _) _ D _ _ (by omega) hdf rfl rfl)
 case stop => exact fun D pre W _ _ h _ => h.elim
theorem tokens_at (s : ByteArray) (w : World) (hs : s.size ≤ 1000000000) :
  Calls Tryz.prog 103 #[.string s] w fun e w' => ∃ v,e = .returned v ∧ RowS w w' v (piecesV s) ∧ Below w.heap.size w w':=callsIn_wide.1 (tokens_in s w hs)
end Go.Proofs.YthhohbidjhcjeaaGreatDoor.H
namespace Go.Proofs.YthhohbidjhcjeaaGreatDoor.H
open Go.RowKit Go.Shelf Go.Proofs.YthhohbidjhcjeaaGreatDoorW.PrintWords Go.Proofs.YthhohbidjhcjeaaGreatDoorW.PrintLast Go.Proofs.YthhohbidjhcjeaaGreatDoorW.PrintMore
open Go.Proofs.YthhohbidjhcjeaaGreatDoor.Q Go.Proofs.YthhohbidjhcjeaaGreatDoor.Pl
set_option linter.unusedVariables false
set_option linter.unusedSimpArgs false
set_option maxHeartbeats 1000000 in
set_option maxRecDepth 100000 in
theorem copyCheck_used (b : Nat) (w : World) (h0 : w.cell? ⟨b,0,none⟩ = some (.pointer (some ⟨b,0,none⟩))) :
  Calls Tryz.prog 162 #[.pointer (some ⟨b,0,none⟩)] w fun e w' => e = .returned (.tuple #[]) ∧ w' = w:=by
 obtain ⟨j,hj,_⟩:=Option.map_eq_some_iff.1 Tryz.Builder_Extra_169.sizeBuilder
 go_enter Tryz.func162,Tryz.ntmps162
 go_wp2
 rw [Lib.run_neq_ptr_same w _ Tryz.underlying147 hj]
 go_wp2
 go_end0
 exact ⟨rfl,rfl⟩
set_option maxHeartbeats 1000000 in
set_option maxRecDepth 100000 in
theorem copyCheck_fresh (b : Nat) (w : World) (h0 : w.cell? ⟨b,0,none⟩ = some (.pointer none)) (hsh : w.shape? b = some (150,2)) (hfz : w.frozen? ⟨b,0,none⟩ = false) :
  Calls Tryz.prog 162 #[.pointer (some ⟨b,0,none⟩)] w fun e w' => e = .returned (.tuple #[]) ∧ w' = w.setCell ⟨b,0,none⟩ (.pointer (some ⟨b,0,none⟩)):=by
 obtain ⟨j,hj,hjs⟩:=Option.map_eq_some_iff.1 Tryz.Builder_Extra_169.sizeBuilder
 go_enter Tryz.func162,Tryz.ntmps162
 go_wp2
 rw [Lib.run_to_unsafe w ⟨b,0,none⟩ Tryz.underlying147 Tryz.underlying199 hj (by rw [hjs]; decide) hsh (Nat.zero_lt_succ 1)]
 simp only [Result.andThen]
 rw [Oper.upon_value]
 go_wp2
 rw [run_callFunc_extern Tryz.func183 (by kernel_rfl) (by kernel_rfl) (by kernel_rfl) (e:=Extern.AbiNoEscape.same) (by kernel_rfl)]
 rw [Lib.run_noEscape]
 simp only [Result.andThen]
 rw [Oper.upon_value]
 go_wp2
 rw [Lib.run_from_unsafe w ⟨b,0,none⟩ Tryz.underlying199 Tryz.underlying147 hj hsh Tryz.Builder_Extra_169.liesBuilder]
 simp only [Result.andThen]
 rw [Oper.upon_value]
 go_wp2
 go_end0
 exact ⟨rfl,rfl⟩
def Bld (B b : Nat) (bs : List Value) (W : World) : Prop :=
 ∃ p v,(p = .pointer none ∨ p = .pointer (some ⟨b,0,none⟩)) ∧ W.heap[b]? = some (.cells #[p,v] 150 (0,0)) ∧ W.ownsRow B 5 1 v bs.length bs ∧ (bs = [] → v = .slice none 0 0)
theorem Bld.is {B b : Nat} {bs : List Value} {W : World} (h : Bld B b bs W) (N : Nat) (h1 : N ≤ B) (h2 : N ≤ b) : Lib.IsBuilder 150 5 N b bs W:=by
 obtain ⟨p,v,hp,hb,ho,hnil⟩:=h
 rcases hp with rfl | rfl
 ·exact .inl ⟨h2,v,hb,own_weaken ho h1,fun e => own_ne ho hb (by decide) e.symm⟩
 ·exact .inr ⟨h2,v,hb,own_weaken ho h1,fun e => own_ne ho hb (by decide) e.symm⟩
theorem Bld.kept {B b : Nat} {bs : List Value} {W W' : World} {row : Option Nat} (h : Bld B b bs W) (hg : W.grownBy W' row) (hr : ∀ r,row = some r → r ≠ b ∧ (r < B ∨ ∀ cs fz,W.heap[r]? ≠ some (.cells cs 5 fz))) : Bld B b bs W':=by
 obtain ⟨p,v,hp,hb,ho,hnil⟩:=h
 refine ⟨p,v,hp,(hg.block b (Array.getElem?_eq_some_iff.1 hb).1 (fun e => (hr b e.symm).1 rfl)).trans hb,own_other ho hg ?_,hnil⟩
 obtain ⟨_,⟨hv,_⟩ | ⟨g,cap',cur,hv,hg0,hh,_⟩⟩:=ho
 ·left; rw [hv]; rfl
 ·right
  intro e
  rw [hv] at e
  rcases (hr g e.symm).2 with h1 | h1
  ·omega
  ·exact h1 _ _ hh
theorem copyCheck_bld {B b : Nat} {bs : List Value} {w : World} (h : Bld B b bs w) :
  Calls Tryz.prog 162 #[.pointer (some ⟨b,0,none⟩)] w fun e w' => e = .returned (.tuple #[]) ∧ (∃ v,w'.heap[b]? = some (.cells #[.pointer (some ⟨b,0,none⟩),v] 150 (0,0)) ∧ w'.ownsRow B 5 1 v bs.length bs ∧ (bs = [] → v = .slice none 0 0)) ∧ w.grownBy w' (some b):=by
 obtain ⟨p,v,hp,hb,ho,hnil⟩:=h
 have hne:=own_ne ho hb (by decide)
 rcases hp with rfl | rfl
 ·refine (copyCheck_fresh b w (by rw [Lib.cell_of_heap hb]; rfl) (by simp [World.shape?,hb]) (Lib.frozen_of_heap hb 0)).mono ?_
  rintro e w' ⟨rfl,rfl⟩
  refine ⟨rfl,⟨v,?_,own_setCell ho hne _,hnil⟩,grownBy_setCell' _ _ _⟩
  simp [World.setCell,Array.getElem?_modify,hb]
 ·refine (copyCheck_used b w (by rw [Lib.cell_of_heap hb]; rfl)).mono ?_
  rintro e w' ⟨rfl,rfl⟩
  exact ⟨rfl,⟨v,hb,ho,hnil⟩,World.grownBy.refl _ _⟩
set_option maxHeartbeats 2000000 in
set_option maxRecDepth 100000 in
theorem writeString_at (B b : Nat) (bs : List Value) (s : ByteArray) (w : World) (h : Bld B b bs w) (hlen : bs.length + s.size ≤ 140737488355328) (hBw : B ≤ w.heap.size) :
  Calls Tryz.prog 139 #[.pointer (some ⟨b,0,none⟩),.string s] w fun e w' => e = .returned (.tuple #[.int .i64 s.size,.nilIface]) ∧ Bld B b (bs ++ Lib.strCells s) w' ∧
   (∀ N,N ≤ B → N ≤ b → N ≤ w.heap.size → Below N w w') ∧ (∀ k o,w.heap[k]? = some o → k ≠ b → (k < B ∨ ∀ cs fz,o ≠ .cells cs 5 fz) → w'.heap[k]? = some o):=by
 obtain ⟨i0,hi,hz0,hz1,hz2⟩:=info_parts Tryz.Builder_Extra_169.infoByte
 go_enter Tryz.func139,Tryz.ntmps139
 replace hi : Tryz.prog.info? 5 = some i0:=hi
 have hmx : bs.length + s.size ≤ maxLen:=by unfold maxLen; omega
 replace h:=Lib.hid h
 replace hi:=Lib.hid hi
 replace hz0:=Lib.hid hz0
 replace hz1:=Lib.hid hz1
 replace hz2:=Lib.hid hz2
 replace hmx:=Lib.hid hmx
 replace hlen:=Lib.hid hlen
 go_wp2_with (first
  | (go_at_call 162; refine (copyCheck_bld h.out).mono ?_; rintro e w1 ⟨rfl,⟨v,hbk,hown,hnil⟩,hb1⟩; replace hnil:=Lib.hid hnil; obtain ⟨ao0,cap0,rfl⟩:=own_slice hown; have hne:=own_ne hown hbk (by decide); replace hbk:=Lib.hid hbk; replace hown:=Lib.hid hown; replace hne:=Lib.hid hne; have c0 : w1.cell? ⟨b,0,none⟩ = some (.pointer (some ⟨b,0,none⟩)):=(by rw [Lib.cell_of_heap hbk.out]; rfl); have c1 : w1.cell? ⟨b,1,none⟩ = some (.slice ao0 bs.length cap0):=(by rw [Lib.cell_of_heap hbk.out]; rfl))
  | (at_builtin; refine Lib.wpList_append_own_string _ rfl _ _ 148 9 rfl B 5 i0 Tryz.underlying148 Tryz.underlying9 hi.out hz0.out hz1.out hz2.out _ _ _ rfl hown.out s rfl hmx.out hlen.out (Nat.le_trans hBw hb1.size) ?_; intro v' w2 hown' hgrow hiff; replace hiff:=Lib.hid hiff; obtain ⟨ao,cap,rfl⟩:=own_slice hown'; have hb2 : w2.heap[b]? = some (.cells #[.pointer (some ⟨b,0,none⟩),.slice ao0 bs.length cap0] 150 (0,0)):=((hgrow.block b (Array.getElem?_eq_some_iff.1 hbk.out).1 hne.out).trans hbk.out); replace hb2:=Lib.hid hb2; have d0 : w2.cell? ⟨b,0,none⟩ = some (.pointer (some ⟨b,0,none⟩)):=(by rw [Lib.cell_of_heap hb2.out]; rfl); have d1 : w2.cell? ⟨b,1,none⟩ = some (.slice ao0 bs.length cap0):=(by rw [Lib.cell_of_heap hb2.out]; rfl); have f1 : w2.frozen? ⟨b,1,none⟩ = false:=Lib.frozen_of_heap hb2.out 1))
 go_ret2
 refine ⟨rfl,?_,?_,?_⟩
 ·refine ⟨_,.slice ao (bs.length + s.size) cap,.inr rfl,?_,?_,?_⟩
  ·simp [World.setCell,Array.getElem?_modify,hb2.out]
  ·rw [List.length_append,Lib.strCells_length]
   exact own_setCell hown' (own_ne hown' hb2.out (by decide)) _
  ·intro he
   rw [List.append_eq_nil_iff] at he
   exact hiff.out.2 ⟨hnil.out he.1,by have:=he.2; rw [← List.length_eq_zero_iff,Lib.strCells_length] at this; exact this⟩
 ·intro N h1 h2 h3
  refine Below.setCell (p:=⟨b,1,none⟩) ?_ h2 _
  refine Below.grown (Below.grown (Below.refl _ w) hb1 h3 (fun k hk => by cases hk; exact h2)) hgrow (Nat.le_trans h3 hb1.size) (fun k hk => Nat.le_trans h1 (own_base hown.out k hk))
 ·intro k o hk hne' hno
  have hl:=(Array.getElem?_eq_some_iff.1 hk).1
  have hk1 : w1.heap[k]? = some o:=(hb1.block k hl (by simp; exact hne')).trans hk
  have hk2 : w2.heap[k]? = some o:=(hgrow.block k (Array.getElem?_eq_some_iff.1 hk1).1 (fun e => by
   have h9:=own_base hown.out k e.symm
   rcases hno with hno | hno
   ·omega
   obtain ⟨_,⟨hv,_⟩ | ⟨g,cap',cur,hv,hg0,hh,_⟩⟩:=hown.out
   ·rw [hv] at e; cases e
   ·rw [hv] at e
    cases e
    rw [hk1] at hh
    exact hno _ _ (Option.some.inj hh))).trans hk1
  exact (Below.heap_setCell _ _ _ _ (fun e => hne' (by simpa using e))).trans hk2
set_option maxHeartbeats 2000000 in
set_option maxRecDepth 100000 in
theorem string_some (b : Nat) (l : List UInt8) (p : Value) (w : World) (g cap : Nat) (cur : Array Value) (hl0 : l ≠ []) (hbk : w.heap[b]? = some (.cells #[p,.slice (some ⟨g,0,none⟩) l.length cap] 150 (0,0)))
  (hg : w.heap[g]? = some (.cells cur 5 (0,0))) (hn1 : 0 < l.length) (hn2 : l.length ≤ cap) (hn3 : cap ≤ maxLen) (hn4 : l.length ≤ cur.size) (hcells : ∀ j x,l[j]? = some x → w.drew.cell? ((⟨g,0,none⟩ : Addr).add j) = some (.int .u8 x.toNat)) :
  Calls Tryz.prog 140 #[.pointer (some ⟨b,0,none⟩)] w fun e w' => e = .returned (.string ⟨l.toArray⟩) ∧ w' = w.drew.freeze ⟨g,0,none⟩ l.length:=by
 have c1 : w.drew.cell? ⟨b,1,none⟩ = some (.slice (some ⟨g,0,none⟩) l.length cap):=by
  have : w.drew.heap[b]? = some (.cells #[p,.slice (some ⟨g,0,none⟩) l.length cap] 150 (0,0)):=hbk
  rw [Lib.cell_of_heap this]; rfl
 have hSD : (Builtin.unsafeSliceData_ #[148] 176 #[.slice (some ⟨g,0,none⟩) l.length cap]).run Tryz.prog w.drew = .ok (.pointer (some ⟨g,0,none⟩)) w.drew :=
  Lib.run_unsafeSliceData_row _ _ _ _ _ _ (by omega)
 have hUS : (Builtin.unsafeString_ #[176,3] 9 #[.pointer (some ⟨g,0,none⟩),.int .i64 l.length]).run Tryz.prog w.drew = .ok (.string ⟨l.toArray⟩) (w.drew.freeze ⟨g,0,none⟩ l.length):=by
  refine Lib.run_unsafeString_row w.drew 176 3 9 5 Tryz.underlying176 Tryz.Builder_Extra_169.cellsByte g cur.size (by have hg' : w.drew.heap[g]? = some (.cells cur 5 (0,0)):=hg; simp [World.shape?,hg']) l hl0 hn4 (by unfold maxLen at hn3; omega) ?_
  exact hcells
 clear hcells hn1 hn2 hn3 hn4 hg hbk
 go_enter Tryz.func140,Tryz.ntmps140
 go_wp2
 go_region
 all_goals (go_wp2; go_ret; exact ⟨rfl,rfl⟩)
set_option maxHeartbeats 2000000 in
set_option maxRecDepth 100000 in
theorem string_nil (b : Nat) (p : Value) (w : World) (hbk : w.heap[b]? = some (.cells #[p,.slice none 0 0] 150 (0,0))) :
  Calls Tryz.prog 140 #[.pointer (some ⟨b,0,none⟩)] w fun e w' => e = .returned (.string ⟨#[]⟩) ∧ w' = w.drew:=by
 have hUS : ∀ W q,(Builtin.unsafeString_ #[176,3] 9 #[.pointer q,.int .i64 0]).run Tryz.prog W = .ok (.string .empty) W:=fun W q => Lib.run_unsafeString_none W _ _ _ q
 have c1 : w.drew.cell? ⟨b,1,none⟩ = some (.slice none 0 0):=by
  have : w.drew.heap[b]? = some (.cells #[p,.slice none 0 0] 150 (0,0)):=hbk
  rw [Lib.cell_of_heap this]; rfl
 have hSD : (Builtin.unsafeSliceData_ #[148] 176 #[.slice none 0 0]).run Tryz.prog w.drew = .ok (.pointer none) w.drew:=rfl
 go_enter Tryz.func140,Tryz.ntmps140
 go_wp2
 go_region
 all_goals (go_wp2; go_ret; exact ⟨rfl,rfl⟩)
theorem string_at (B b : Nat) (l : List UInt8) (w : World) (h : Bld B b (Lib.byteCells l) w) :
  Calls Tryz.prog 140 #[.pointer (some ⟨b,0,none⟩)] w fun e w' => e = .returned (.string ⟨l.toArray⟩) ∧ (∀ N,N ≤ B → Below N w w') ∧ (∀ (k : Nat) (o : Obj),w.heap[k]? = some o → o.isCells = false → w'.heap[k]? = some o):=by
 obtain ⟨p,v,hp,hb,ho,hnil⟩:=h
 rw [Lib.byteCells_length] at ho
 by_cases hl : l = []
 ·subst hl
  rw [hnil rfl] at hb
  refine (string_nil b p w hb).mono ?_
  rintro e w' ⟨rfl,rfl⟩
  exact ⟨rfl,fun N _ => Below.drew (Below.refl N w),fun k o hk _ => hk⟩
 ·have hpos : 0 < l.length:=by rcases l with _ | _ <;> simp at hl ⊢
  obtain ⟨hln,⟨hv,h0⟩ | ⟨g,cap,cur,hv,hBg,hg,hn2,hn3,hcs,htk⟩⟩:=id ho
  ·omega
  ·subst hv
   have hcells : ∀ j x,l[j]? = some x → w.drew.cell? ((⟨g,0,none⟩ : Addr).add j) = some (.int .u8 x.toNat):=fun j x hx => ho.cells (g:=g) rfl j (.int .u8 x.toNat) (by simp [Lib.byteCells,hx])
   refine (string_some b l p w g cap cur hl hb hg hpos hn2 hn3 (by omega) hcells).mono ?_
   rintro e w' ⟨rfl,rfl⟩
   refine ⟨rfl,fun N hN => Lib.below_freeze (Below.drew (Below.refl N w)) (p:=⟨g,0,none⟩) (Nat.le_trans hN hBg) _,fun k o hk hc => ?_⟩
   have hne : k ≠ g:=by
    rintro rfl
    rw [hg] at hk
    cases hk
    cases hc
   unfold World.freeze
   split
   ·exact hk
   ·simp only [Array.getElem?_modify]
    rw [if_neg (fun e => hne e.symm)]
    exact hk
open Go.Proofs.YthhohbidjhcjeaaGreatDoor.Q Go.Proofs.YthhohbidjhcjeaaGreatDoor.Pl Go.Proofs.YthhohbidjhcjeaaGreatDoor.RB
attribute [local go_sem] Oper.semAt_some
def swapP (fr to_ : ByteArray) (x : ByteArray × Bool) : ByteArray:=if x.2 = true ∧ x.1 = fr then to_ else x.1
def outP (fr to_ : ByteArray) (l : List (ByteArray × Bool)) : List UInt8:=l.flatMap (fun x => (swapP fr to_ x).data.toList)
theorem outP_snoc (fr to_ : ByteArray) (l : List (ByteArray × Bool)) (x : ByteArray × Bool) : outP fr to_ (l ++ [x]) = outP fr to_ l ++ (swapP fr to_ x).data.toList:=by simp [outP]
theorem outP_le (fr to_ : ByteArray) (l : List (ByteArray × Bool)) (k : List (ByteArray × Bool)) (h : l <+: k) : (outP fr to_ l).length ≤ (outP fr to_ k).length:=by
 obtain ⟨t,rfl⟩:=h
 simp [outP]
theorem outP_repl (s fr to_ : ByteArray) (hf : tokenB fr = true) : (⟨(outP fr to_ (piecesP s)).toArray⟩ : ByteArray) = replV s fr to_:=by
 have key : ∀ l : List (List UInt8),(l.map pieceP).flatMap (fun x => (swapP fr to_ x).data.toList) = l.flatMap (fun r => if r = fr.data.toList then to_.data.toList else r):=by
  intro l
  induction l with
  | nil => rfl
  | cons r l ih =>
   rw [List.map_cons,List.flatMap_cons,List.flatMap_cons,ih]
   congr 1
   unfold swapP
   by_cases hr : r = fr.data.toList
   ·have hp : pieceP r = (fr,true):=by
     obtain ⟨hne,hall⟩:=token_uni hf
     rw [← hr] at hne hall
     unfold pieceP
     rcases r with _ | ⟨c,r⟩
     ·exact absurd rfl hne
     ·refine Prod.ext ?_ (hall c (by simp))
      rw [hr]
    rw [hp,if_pos ⟨rfl,rfl⟩,if_pos hr]
   ·rw [if_neg hr,if_neg]
    ·rfl
    ·rintro ⟨_,h⟩
     apply hr
     rw [← h]
     rfl
 unfold outP piecesP replV
 rw [key]
theorem outP_bound (fr to_ : ByteArray) (l : List (ByteArray × Bool)) : (outP fr to_ l).length ≤ (l.map (fun x => x.1.size)).sum + l.length * to_.size:=by
 induction l with
 | nil => simp [outP]
 | cons x l ih =>
  have e : outP fr to_ (x :: l) = (swapP fr to_ x).data.toList ++ outP fr to_ l:=by simp [outP]
  rw [e,List.length_append,dlen,List.map_cons,List.sum_cons,List.length_cons,Nat.add_mul]
  have : (swapP fr to_ x).size ≤ x.1.size + to_.size:=by unfold swapP; split <;> omega
  omega
theorem piecesP_sum (s : ByteArray) : ((piecesP s).map (fun x => x.1.size)).sum = s.size:=by
 have key : ∀ l : List (List UInt8),((l.map pieceP).map (fun x => x.1.size)).sum = l.flatten.length:=by
  intro l
  induction l with
  | nil => rfl
  | cons r l ih =>
   rw [List.map_cons,List.map_cons,List.sum_cons,ih,List.flatten_cons,List.length_append]
   congr 1
 unfold piecesP
 rw [key,runs_flat,dlen]
set_option maxRecDepth 100000 in
set_option maxHeartbeats 4000000 in
theorem replace_in (s fr to_ : ByteArray) (w : World) (hs : s.size ≤ 140737488355328) (hlen : (outP fr to_ (piecesP s)).length ≤ 140737488355328) :
  CallsIn Fence.wide 6 Tryz.prog 104 #[.string s,.string fr,.string to_] w fun e w' => e = .returned (.string ⟨(outP fr to_ (piecesP s)).toArray⟩) ∧ Below w.heap.size w w':=by
 refine callsIn_of_wp_marks Tryz.func104 rfl trivial ?_ rfl
 simp only [Tryz.ntmps104,List.size_toArray,List.length_cons,List.length_nil,Nat.reduceAdd,Nat.reduceSub,Array.replicate_succ,Array.replicate_zero,List.push_toArray,List.append_toArray,List.nil_append,List.cons_append]
 gi_wp2_with (refine ⟨trivial,?_⟩; gi_at_call 138; refine (pieces_in _ _ _).mono ?_; rintro e w1 ⟨rfl,rfl⟩)
 have b4:=((((Boxed.new w 9 (.string fr)).alloc (.cells #[.string to_] 9)).alloc (.cells #[.pointer none,.slice none 0 0] 150)).alloc (.cells #[.string s] 9))
 have b5:=(((Boxed.new (w.alloc (.cells #[.string fr] 9)) 9 (.string to_)).alloc (.cells #[.pointer none,.slice none 0 0] 150)).alloc (.cells #[.string s] 9))
 have bs:=Boxed.new (((w.alloc (.cells #[.string fr] 9)).alloc (.cells #[.string to_] 9)).alloc (.cells #[.pointer none,.slice none 0 0] 150)) 9 (.string s)
 have bB : ((((w.alloc (.cells #[.string fr] 9)).alloc (.cells #[.string to_] 9)).alloc (.cells #[.pointer none,.slice none 0 0] 150)).alloc (.cells #[.string s] 9)).heap[w.heap.size + 2]? = some (.cells #[.pointer none,.slice none 0 0] 150 (0,0)):=by
  have h:=blk_new ((w.alloc (.cells #[.string fr] 9)).alloc (.cells #[.string to_] 9)) (.cells #[.pointer none,.slice none 0 0] 150)
  simp only [World.size_alloc] at h
  exact blk_alloc h _
 simp only [World.size_alloc] at b5 bs
 have hB0 : Below w.heap.size w ((((w.alloc (.cells #[.string fr] 9)).alloc (.cells #[.string to_] 9)).alloc (.cells #[.pointer none,.slice none 0 0] 150)).alloc (.cells #[.string s] 9)) :=
  ((((Below.refl _ w).alloc (Nat.le_refl _) _).alloc (by simp) _).alloc (by simp; omega) _).alloc (by simp; omega) _
 have hsz : ((((w.alloc (.cells #[.string fr] 9)).alloc (.cells #[.string to_] 9)).alloc (.cells #[.pointer none,.slice none 0 0] 150)).alloc (.cells #[.string s] 9)).heap.size = w.heap.size + 4:=by simp
 obtain ⟨W0,hW0⟩ : ∃ W0,((((w.alloc (.cells #[.string fr] 9)).alloc (.cells #[.string to_] 9)).alloc (.cells #[.pointer none,.slice none 0 0] 150)).alloc (.cells #[.string s] 9)) = W0:=⟨_,rfl⟩
 rw [hW0] at b4 b5 bs bB hB0 hsz ⊢
 clear hW0
 have hb0 : Bld (w.heap.size + 4) (w.heap.size + 2) (Lib.byteCells (outP fr to_ [])) W0:=⟨_,_,.inl rfl,bB,own_nil _ _ _ _,fun _ => rfl⟩
 refine wpIn_rangeFunc_given (F:=Fence.wide) (α:=ByteArray × Bool) (Z:=fun r => r = w.heap.size + 1 + 1 + 1) rfl (by omega) (gf:=161)
  (lb:=#[.pointer (some ⟨w.heap.size + 1 + 1 + 1,0,none⟩)]) rfl trivial (enters_of Tryz.func161 (by kernel_rfl) rfl)
  (pieces_gives 5 (by omega) (w.heap.size + 1 + 1 + 1) s W0 (by omega) bs) (fun r e => by omega) ?kt ?kb (Below.refl _ _) (fun _ => rfl)
  (fun pre W => Boxed W w.heap.size 9 (.string fr) ∧ Boxed W (w.heap.size + 1) 9 (.string to_) ∧ Bld (w.heap.size + 4) (w.heap.size + 2) (Lib.byteCells (outP fr to_ pre)) W ∧ Below w.heap.size w W ∧ w.heap.size + 4 ≤ W.heap.size)
  (fun _ pre W => False)
  ?own ?ownx ⟨b4,b5,hb0,hB0,by omega⟩
  (fun x => { tmps:=#[.string s,.string fr,.string to_,undef,.pointer (some ⟨w.heap.size,0,none⟩),.pointer (some ⟨w.heap.size + 1,0,none⟩),.string ⟨#[]⟩,.pointer (some ⟨w.heap.size + 1 + 1,0,none⟩),.string x.1,.bool x.2,.string s,
   .func (.func 161) #[] #[.pointer (some ⟨w.heap.size + 1 + 1 + 1,0,none⟩)],.string x.1,.bool x.2,undef,undef,undef,undef,undef,undef,undef,undef,undef,undef],defers:=[] })
  ?assign ?body ?done ?stop
 case kt => exact fun h k => k.trans h
 case kb => exact fun W l o o' hl _ _ _ => World.putObj_heap_other (by omega)
 case own =>
  rintro pre X Y row ⟨h1,h2,h3,h4,h6⟩ hg hr
  have ne : ∀ B t v,Boxed X B t v → B ≠ w.heap.size + 1 + 1 + 1 → some B ≠ row:=fun B t v hb hB e => by
   rcases hr B e.symm with ⟨_,o,ho,hc⟩ | h5
   ·rw [show X.heap[B]? = _ from hb] at ho
    cases ho
    cases hc
   ·exact hB h5
  refine ⟨h1.kept hg (ne _ _ _ h1 (by omega)),h2.kept hg (ne _ _ _ h2 (by omega)),h3.kept hg fun r e => ?_,Below.grown h4 hg (by have:=h1.lt; omega) (fun r e => by rcases hr r e with ⟨h5,_⟩ | h5 <;> omega),Nat.le_trans h6 hg.size⟩
  rcases hr r e with ⟨h5,o,ho,hc⟩ | h5
  ·refine ⟨by omega,.inr fun cs fz hh => ?_⟩
   rw [ho] at hh
   cases hh
   cases hc
  ·exact ⟨by omega,.inl (by omega)⟩
 case ownx => exact fun _ pre X Y row h _ _ => h.elim
 case assign =>
  intro l x W K hK
  gi_wp2
  exact hK
 case body =>
  rintro l pre ⟨t,fl⟩ W ⟨h1,h2,h3,h4,h6⟩ hpre
  have c1:=h1.cell
  have c2:=h2.cell
  have hbnd : (outP fr to_ pre).length + (swapP fr to_ (t,fl)).size ≤ 140737488355328:=by
   have h:=outP_le fr to_ _ _ hpre
   rw [outP_snoc,List.length_append,dlen] at h
   omega
  have hend : ∀ (a : Act) (e : Ending) (w1 : World),e = .returned (.tuple #[.int .i64 (swapP fr to_ (t,fl)).size,.nilIface]) ∧ Bld (w.heap.size + 4) (w.heap.size + 1 + 1) (Lib.byteCells (outP fr to_ pre) ++ Lib.strCells (swapP fr to_ (t,fl))) w1 ∧
   (∀ N,N ≤ w.heap.size + 4 → N ≤ w.heap.size + 1 + 1 → N ≤ W.heap.size → Below N W w1) ∧ (∀ k o,W.heap[k]? = some o → k ≠ w.heap.size + 1 + 1 → (k < w.heap.size + 4 ∨ ∀ cs fz,o ≠ .cells cs 5 fz) → w1.heap[k]? = some o) →
   postZ W0.heap.size (fun W W' => W'.heap[w.heap.size + 1 + 1 + 1]? = W.heap[w.heap.size + 1 + 1 + 1]?) (fun pre W => Boxed W w.heap.size 9 (.string fr) ∧ Boxed W (w.heap.size + 1) 9 (.string to_) ∧ Bld (w.heap.size + 4) (w.heap.size + 2) (Lib.byteCells (outP fr to_ pre)) W ∧ Below w.heap.size w W ∧ w.heap.size + 4 ≤ W.heap.size)
    (fun _ pre W => False) (pre ++ [(t,fl)]) W .normal a w1:=by
   rintro a e w1 ⟨_,hb,hbl,hk⟩
   have hbw:=hbl w.heap.size (by omega) (by omega) (by omega)
   have hbl2:=hbl (w.heap.size + 1 + 1) (by omega) (by omega) (by omega)
   obtain ⟨o3,ho3⟩ : ∃ o,W.heap[w.heap.size + 1 + 1 + 1]? = some o:=⟨_,Array.getElem?_eq_getElem (by omega)⟩
   refine ⟨⟨hbw.size,fun k o hk1 hk2 hc => hk k o hk2 (by omega) (.inr (by rintro cs fz rfl; cases hc))⟩,?_,?_,?_,?_,h4.trans hbw,Nat.le_trans h6 hbw.size⟩
   ·show w1.heap[_]? = W.heap[_]?
    rw [ho3]
    exact hk _ _ ho3 (by omega) (.inl (by omega))
   ·exact hk _ _ h1 (by omega) (.inl (by omega))
   ·exact hk _ _ h2 (by omega) (.inl (by omega))
   ·rw [outP_snoc]
    have e1 : Lib.byteCells (outP fr to_ pre ++ (swapP fr to_ (t,fl)).data.toList) = Lib.byteCells (outP fr to_ pre) ++ Lib.strCells (swapP fr to_ (t,fl)):=by simp [Lib.byteCells,Lib.strCells]
    rw [e1]
    exact hb
  have hW:=writeString_at (w.heap.size + 4) (w.heap.size + 1 + 1) _ (swapP fr to_ (t,fl)) W h3 (by rw [Lib.byteCells_length]; exact hbnd) h6
  have hy : swapP fr to_ (t,fl) = if fl = true ∧ t = fr then to_ else t:=rfl
  obtain ⟨y,hyy⟩ : ∃ y,swapP fr to_ (t,fl) = y:=⟨_,rfl⟩
  rw [hyy] at hend hW hy
  clear hyy hbnd hpre h1 h2 h3 h4 h6 hs hlen hb0 b4 b5 bs bB hB0 hsz
  replace hend:=Lib.hid hend
  replace hW:=Lib.hid hW
  cases fl with
  | false =>
   rw [if_neg (by simp)] at hy
   subst hy
   gi_wp2_with (refine ⟨trivial,?_⟩; gi_at_call 139; refine (CallsIn.inRound l (callsIn_wide.2 hW.out)).mono ?_; rintro e w1 ⟨rfl,hrest⟩)
   exact hend.out _ _ _ ⟨rfl,hrest⟩
  | true =>
   by_cases htf : t = fr
   ·rw [if_pos ⟨rfl,htf⟩] at hy
    subst hy htf
    gi_wp2_with (refine ⟨trivial,?_⟩; gi_at_call 139; refine (CallsIn.inRound l (callsIn_wide.2 hW.out)).mono ?_; rintro e w1 ⟨rfl,hrest⟩)
    exact hend.out _ _ _ ⟨rfl,hrest⟩
   ·rw [if_neg (fun h => htf h.2)] at hy
    subst hy
    have hne : (y.toList == fr.toList) = false:=by
     rw [beq_eq_false_iff_ne]
     exact fun e => htf (toList_inj e)
    clear htf
    gi_wp2_with (refine ⟨trivial,?_⟩; gi_at_call 139; refine (CallsIn.inRound l (callsIn_wide.2 hW.out)).mono ?_; rintro e w1 ⟨rfl,hrest⟩)
    exact hend.out _ _ _ ⟨rfl,hrest⟩
 case done =>
  rintro D xs W hD hS ⟨h1,h2,h3,h4,h6⟩ hdf
  have hS' : outP fr to_ xs = outP fr to_ (piecesP s):=by rw [show xs = piecesP s from hS]
  rw [hS'] at h3
  clear hS hS' h1 h2 hs hlen hb0 b4 b5 bs bB hB0
  obtain ⟨o,ho⟩ : ∃ o,outP fr to_ (piecesP s) = o:=⟨_,rfl⟩
  rw [ho] at h3
  replace ho:=Lib.hid ho
  have hC:=string_at _ _ _ _ h3
  replace hC:=Lib.hid hC
  gi_wp2_with (refine ⟨trivial,?_⟩; gi_at_call 140; refine (callsIn_wide.2 hC.out).mono ?_; rintro e w1 ⟨rfl,hbl,hk⟩)
  have hdf2:=hk D _ hdf rfl
  refine ⟨by simp,.inl ⟨_,_,rfl,run_takeDeferred hdf2,?_⟩⟩
  refine ⟨.string ⟨o.toArray⟩,by simp [results,Tryz.results104,go_sem],by rw [ho.out],?_⟩
  exact (h4.trans (hbl w.heap.size (by omega))).trans (belowK_b (w:=w) (Nat.le_refl _) _ D _ _ (by omega) hdf2 rfl rfl)
 case stop => exact fun D pre W _ _ h _ => h.elim
theorem replace_at (s fr to_ : ByteArray) (w : World) (hs : s.size ≤ 1000000000) (ht : to_.size ≤ 100000) (hf : tokenB fr = true) :
  Calls Tryz.prog 104 #[.string s,.string fr,.string to_] w fun e w' => e = .returned (.string (replV s fr to_)) ∧ Below w.heap.size w w':=by
 have hl : (outP fr to_ (piecesP s)).length ≤ 140737488355328:=by
  have h1:=outP_bound fr to_ (piecesP s)
  rw [piecesP_sum] at h1
  have h2 : (piecesP s).length * to_.size ≤ 1000000000 * 100000:=Nat.mul_le_mul (Nat.le_trans (piecesP_len s) hs) ht
  omega
 have h:=callsIn_wide.1 (replace_in s fr to_ w (by omega) hl)
 rw [outP_repl s fr to_ hf] at h
 exact h
end Go.Proofs.YthhohbidjhcjeaaGreatDoor.H
namespace Go.Proofs.YthhohbidjhcjeaaGreatDoor.H
open Go.RowKit Go.Proofs.YthhohbidjhcjeaaGreatDoorW.PrintWords Go.Proofs.YthhohbidjhcjeaaGreatDoorW.PrintLast Go.Proofs.YthhohbidjhcjeaaGreatDoorW.PrintMore
open Go.Proofs.YthhohbidjhcjeaaGreatDoor.Q Go.Proofs.YthhohbidjhcjeaaGreatDoor.Pl
set_option linter.unusedSimpArgs false
set_option linter.unusedVariables false
theorem map_toList_inj : ∀ {a b : List ByteArray},a.map ByteArray.toList = b.map ByteArray.toList → a = b
 | [],[],_ => rfl
 | [],_ :: _,h => by cases h
 | _ :: _,[],h => by cases h
 | x :: a,y :: b,h => by
  simp only [List.map_cons,List.cons.injEq] at h
  rw [toList_inj h.1,map_toList_inj h.2]def eqL (a b : List ByteArray) : Bool:=decide (a.map ByteArray.toList = b.map ByteArray.toList)
theorem eqL_iff (a b : List ByteArray) : eqL a b = true ↔ a = b:=⟨fun h => map_toList_inj (of_decide_eq_true h),fun h => decide_eq_true (by rw [h])⟩
theorem eqL_cons (a b : ByteArray) (x y : List ByteArray) : eqL (a :: x) (b :: y) = (decide (a.toList = b.toList) && eqL x y):=by
 apply Bool.eq_iff_iff.2
 simp only [Bool.and_eq_true,decide_eq_true_eq,eqL_iff,List.cons.injEq]
 exact ⟨fun h => ⟨by rw [h.1],h.2⟩,fun h => ⟨toList_inj h.1,h.2⟩⟩
theorem equal_l (a b : List ByteArray) (hl : a.length = b.length) (hn : a.length ≤ 140737488355328) : ∀ (d i : Nat),i + d = a.length → Ev (fun k => slices_Equal_string_string.l0 k a b (a.length : Int) (i : Int)) (eqL (a.drop i) (b.drop i)):=by
 intro d
 induction d with
 | zero =>
  intro i hi
  refine Ev.step (f:=fun _ => some (eqL (a.drop i) (b.drop i))) (fun k => ?_) (Ev.now _)
  simp only [slices_Equal_string_string.l0]
  rw [if_neg (by omega),List.drop_of_length_le (by omega),List.drop_of_length_le (by omega)]
  rfl
 | succ d ih =>
  intro i hi
  have h1 : i < a.length:=by omega
  have h2 : i < b.length:=by omega
  have ea : a.drop i = a[i] :: a.drop (i + 1):=List.drop_eq_getElem_cons h1
  have eb : b.drop i = b[i] :: b.drop (i + 1):=List.drop_eq_getElem_cons h2
  rw [ea,eb,eqL_cons]
  by_cases hc : a[i].toList = b[i].toList
  ·rw [decide_eq_true hc,Bool.true_and]
   refine Ev.step (f:=fun k => slices_Equal_string_string.l0 k a b (a.length : Int) ((i + 1 : Nat) : Int)) (fun k => ?_) (ih (i + 1) (by omega))
   simp only [slices_Equal_string_string.l0]
   rw [if_pos (by omega),if_pos (by omega),if_pos (by omega),if_pos (by omega),rdOf_get _ _ h1,rdOf_get _ _ h2,if_pos hc,wrap_1 h1 hn]
  ·rw [decide_eq_false hc,Bool.false_and]
   refine Ev.step (f:=fun _ => some false) (fun k => ?_) (Ev.now _)
   simp only [slices_Equal_string_string.l0]
   rw [if_pos (by omega),if_pos (by omega),if_pos (by omega),if_pos (by omega),rdOf_get _ _ h1,rdOf_get _ _ h2,if_neg hc]
theorem equal_list (a b : List ByteArray) (hn : a.length ≤ 140737488355328) : Ev (fun k => slices_Equal_string_string.f k a b) (eqL a b):=by
 by_cases hl : a.length = b.length
 ·have h:=equal_l a b hl hn a.length 0 (by omega)
  rw [List.drop_zero,List.drop_zero] at h
  refine Ev.congr (fun k => ?_) h
  unfold slices_Equal_string_string.f
  rw [if_pos (by omega)]
  rfl
 ·have e : eqL a b = false:=by
   rw [Bool.eq_false_iff]
   intro h
   exact hl (by rw [(eqL_iff _ _).1 h])
  rw [e]
  refine Ev.congr (fun k => ?_) (Ev.now _)
  unfold slices_Equal_string_string.f
  rw [if_neg (by omega)]
theorem equal_at (a b : List ByteArray) (A : Option Addr) (c : Nat) (B : Option Addr) (d : Nat) (w : World) (hn : a.length ≤ 140737488355328) (ga : Kd.C Kd.string w A a.length a) (hc : a.length ≤ c) (gb : Kd.C Kd.string w B b.length b) (hd : b.length ≤ d) :
  Calls Tryz.prog 135 #[.slice A a.length c,.slice B b.length d] w fun e w' => e = .returned (.bool (eqL a b)) ∧ Below w.heap.size w w':=by
 obtain ⟨k,hk⟩:=(equal_list a b hn).rounds
 exact (slices_Equal_string_string.calls k A c a B d b _ w ga hc gb hd hk).mono (fun _ _ ⟨he,hb⟩ => ⟨he,hb.below⟩)

theorem concat3_at (w' : World) (B : Nat) (A A2 A3 : Option Addr) (c c2 c3 : Nat) (m1 m2 m3 : List ByteArray) (hB : B ≤ w'.heap.size) (g1 : Kd.string.C w' A m1.length m1) (g2 : Kd.string.C w' A2 m2.length m2) (g3 : Kd.string.C w' A3 m3.length m3) (hn : m1.length + m2.length + m3.length ≤ 1256584717458) :
  Calls Tryz.prog 136 #[.slice (some ⟨w'.heap.size,0,none⟩) 3 3] ((w'.alloc (.cells #[.slice A m1.length c,.slice A2 m2.length c2,.slice A3 m3.length c3] 23)).drew) fun e W' => ∃ Y d,e = .returned (.slice Y (m1 ++ m2 ++ m3).length d) ∧ RowS w' W' (.slice Y (m1 ++ m2 ++ m3).length d) (m1 ++ m2 ++ m3) ∧ Below w'.heap.size w' W':=by
 have hb : Below w'.heap.size w' ((w'.alloc (.cells #[.slice A m1.length c,.slice A2 m2.length c2,.slice A3 m3.length c3] 23)).drew):=below_drew (below_alloc (Below.refl _ _) _)
 have hf : flatS [(A,c,m1),(A2,c2,m2),(A3,c3,m3)] = m1 ++ m2 ++ m3:=by simp [flatS]
 have h:=concatS_at [(A,c,m1),(A2,c2,m2),(A3,c3,m3)] w'.heap.size 3 ((w'.alloc (.cells #[.slice A m1.length c,.slice A2 m2.length c2,.slice A3 m3.length c3] 23)).drew) (fun j r hj => by
   have hblk:=blk_drew (blk_new w' (.cells #[.slice A m1.length c,.slice A2 m2.length c2,.slice A3 m3.length c3] 23))
   rw [blk_cell hblk]
   match j,hj with
   | 0,hj => rw [← Option.some.inj hj]; rfl
   | 1,hj => rw [← Option.some.inj hj]; rfl
   | 2,hj => rw [← Option.some.inj hj]; rfl
   | _ + 3,hj => simp at hj) (fun r hr => by
   simp only [List.mem_cons,List.not_mem_nil,or_false] at hr
   rcases hr with rfl | rfl | rfl
   ·exact ReadsRow.imp_ g1 hb (fun _ _ h => h)
   ·exact ReadsRow.imp_ g2 hb (fun _ _ h => h)
   ·exact ReadsRow.imp_ g3 hb (fun _ _ h => h)) (by rw [hf,List.length_append,List.length_append]; exact hn) (by simp)
 rw [hf] at h
 refine h.mono ?_
 rintro e W' ⟨v,rfl,hr,hb2⟩
 obtain ⟨Y,d,rfl,hd⟩:=hr.slice
 exact ⟨Y,d,rfl,OwnRow.lower hr hb.size,hb.trans (hb2.mono hb.size)⟩
set_option maxHeartbeats 4000000 in
set_option maxRecDepth 1000000 in
theorem diffApply_at (L O N : List ByteArray) (A : Option Addr) (c : Nat) (a : Nat) (AO : Option Addr) (cO : Nat) (AN : Option Addr) (cN : Nat) (W : World) (gL : Kd.string.C W A L.length L) (lL : L.length ≤ c) (gO : Kd.string.C W AO O.length O) (lO : O.length ≤ cO) (gN : Kd.string.C W AN N.length N) (lN : N.length ≤ cN)
  (ha : a ≤ 1073741824) (hl1 : L.length ≤ 1000000000) (hl2 : O.length ≤ 1000000000) (hl3 : N.length ≤ 1000000000) :
  Calls Tryz.prog 101 #[.slice A L.length c,.agg #[.int .i64 (a : Int),.slice AO O.length cO,.slice AN N.length cN]] W fun e W' => Below W.heap.size W W' ∧
   ∃ Y d,e = .returned (.tuple #[.slice Y ((hunkV L a O N).getD []).length d,.bool (hunkV L a O N).isSome]) ∧ ∀ M,hunkV L a O N = some M → RowS W W' (.slice Y M.length d) M:=by
 have HB : Aside0 (Below W.heap.size W (W.alloc (.cells #[.int .i64 (a : Int),.slice AO O.length cO,.slice AN N.length cN] 53))):=⟨below_alloc (Below.refl _ _) _⟩
 have HX : Aside0 ((W.alloc (.cells #[.int .i64 (a : Int),.slice AO O.length cO,.slice AN N.length cN] 53)).heap[W.heap.size]? = some (.cells #[.int .i64 (a : Int),.slice AO O.length cO,.slice AN N.length cN] 53 (0,0))):=⟨blk_new _ _⟩
 have b0:=(blk_cell HX.out 0).trans (show _ = some (Value.int .i64 (a : Int)) from rfl)
 have b1:=(blk_cell HX.out 1).trans (show _ = some (Value.slice AO O.length cO) from rfl)
 have b2:=(blk_cell HX.out 2).trans (show _ = some (Value.slice AN N.length cN) from rfl)
 have e0 : decide ((a : Int) < 0) = false:=decide_eq_false (by omega)
 have GL:=Aside0.mk gL
 have GO:=Aside0.mk gO
 have GN:=Aside0.mk gN
 have H1:=Aside0.mk hl1
 have H2:=Aside0.mk hl2
 have H3:=Aside0.mk hl3
 have LL:=Aside0.mk lL
 have LO:=Aside0.mk lO
 have LN:=Aside0.mk lN
 have hw1 : IntKind.i64.wrap ((L.length : Int) - (a : Int)) = (L.length : Int) - (a : Int):=wrap64_same (by omega) (by omega)
 by_cases h1 : a ≤ L.length
 ·have e1 : decide ((L.length : Int) < (a : Int)) = false:=decide_eq_false (by omega)
  by_cases h2 : a + O.length ≤ L.length
  ·have e2 : decide ((L.length : Int) - (a : Int) < (O.length : Int)) = false:=decide_eq_false (by omega)
   have hw2 : IntKind.i64.wrap ((a : Int) + (O.length : Int)) = (a : Int) + (O.length : Int):=wrap64_same (by omega) (by omega)
   obtain ⟨i0,hi0,_,hsz,_⟩:=info_parts infoS
   obtain ⟨A1,hcut1,hR1,hC1⟩:=print_mid_of (P:=Tryz.prog) Value.string (⟨#[]⟩ : ByteArray) 23 9 .i64 .i64 Tryz.underlying23 hi0 hsz A c L (a : Int) ((a : Int) + (O.length : Int)) (by omega) (by omega) (by omega) lL
   obtain ⟨hcut2,hR2,hC2⟩:=print_take_of (P:=Tryz.prog) Value.string (⟨#[]⟩ : ByteArray) 23 9 .i64 Tryz.underlying23 hi0 hsz A c L (a : Int) (by omega) (by omega) lL
   obtain ⟨A3,hcut3,hR3,hC3⟩:=print_drop_of (P:=Tryz.prog) Value.string (⟨#[]⟩ : ByteArray) 23 9 .i64 Tryz.underlying23 hi0 hsz A c L ((a : Int) + (O.length : Int)) (by omega) (by omega) lL
   have eM : (L.take ((a : Int) + (O.length : Int)).toNat).drop ((a : Int)).toNat = (L.drop a).take O.length:=by
    rw [Int.toNat_natCast,show ((a : Int) + (O.length : Int)).toNat = a + O.length by omega,List.take_drop]
   have eT : L.take ((a : Int)).toNat = L.take a:=by rw [Int.toNat_natCast]
   have eD : L.drop ((a : Int) + (O.length : Int)).toNat = L.drop (a + O.length):=by rw [show ((a : Int) + (O.length : Int)).toNat = a + O.length by omega]
   rw [eM] at hcut1 hR1 hC1
   rw [eT] at hcut2 hR2 hC2
   rw [eD] at hcut3 hR3 hC3
   obtain ⟨m1,hm1⟩ : ∃ m,(L.drop a).take O.length = m:=⟨_,rfl⟩
   obtain ⟨m2,hm2⟩ : ∃ m,L.take a = m:=⟨_,rfl⟩
   obtain ⟨m3,hm3⟩ : ∃ m,L.drop (a + O.length) = m:=⟨_,rfl⟩
   rw [hm1] at hcut1 hR1 hC1
   rw [hm2] at hcut2 hR2 hC2
   rw [hm3] at hcut3 hR3 hC3
   have hm1l : m1.length ≤ 140737488355328:=by rw [← hm1,List.length_take]; omega
   have hmt : Aside0 (m2.length + N.length + m3.length ≤ 1256584717458):=⟨by rw [← hm2,← hm3,List.length_take,List.length_drop]; omega⟩
   have hcv : c - a - 0 = c - a:=by omega
   have HM1:=Aside0.mk hm1
   have HM2:=Aside0.mk hm2
   have HM3:=Aside0.mk hm3
   have K1 : ∀ w,Kd.string.C w A L.length L → Kd.string.C w A1 m1.length m1:=fun w h => Kd.C_of_reads (h1:=fun _ => rfl) (hR1 _ (Kd.reads_of_C h))
   have K2 : ∀ w,Kd.string.C w A L.length L → Kd.string.C w A m2.length m2:=fun w h => Kd.C_of_reads (h1:=fun _ => rfl) (hR2 _ (Kd.reads_of_C h))
   have K3 : ∀ w,Kd.string.C w A L.length L → Kd.string.C w A3 m3.length m3:=fun w h => Kd.C_of_reads (h1:=fun _ => rfl) (hR3 _ (Kd.reads_of_C h))
   have K1':=Aside0.mk K1
   have K2':=Aside0.mk K2
   have K3':=Aside0.mk K3
   have HC1:=Aside0.mk hC1
   have HC2:=Aside0.mk hC2
   have HC3:=Aside0.mk hC3
   have hEq:=fun w (hb : Below W.heap.size W w) => equal_at m1 O A1 (c - (a : Int).toNat) AO cO w hm1l (K1 _ (Kd.C_below gL hb)) hC1 (Kd.C_below gO hb) lO
   rw [Int.toNat_natCast] at hEq hcut1
   clear K1 K2 K3 hR1 hR2 hR3 gL gO gN hl1 hl2 hl3 lL lO lN hm1 hm2 hm3 eM eT eD hi0 hsz hC1 hC2 hC3 hm1l
   obtain ⟨r,hr⟩ : ∃ r,eqL m1 O = r:=⟨_,rfl⟩
   rw [hr] at hEq
   cases r with
   | false =>
    have hv : hunkV L a O N = none:=by
     unfold hunkV
     rw [if_neg]
     rintro ⟨_,_,h⟩
     rw [Int.toNat_natCast,HM1.out] at h
     rw [h,(eqL_iff _ _).mpr rfl] at hr
     cases hr
    rw [hv]
    clear hv hr
    go_enter Tryz.func101,Tryz.ntmps101
    go_wp2
    go_region_held3 (fun U => U.cell? ⟨W.heap.size,0,none⟩ = some (.int .i64 (a : Int)) ∧ U.cell? ⟨W.heap.size,1,none⟩ = some (.slice AO O.length cO)) (first | exact ⟨b0,b1⟩ | exact ⟨pw_cell_below hb b0,pw_cell_below hb b1⟩) ((go_at_call 135; refine (hEq _ (below_drew HB.out)).mono ?_; rintro e w' ⟨rfl,hb⟩))
    all_goals
     go_wp2
     go_ret2
     exact ⟨(below_drew HB.out).trans (hb.mono (below_drew HB.out).size),_,_,rfl,fun M h => by cases h⟩
   | true =>
    have hv : hunkV L a O N = some (m2 ++ N ++ m3):=by
     unfold hunkV
     rw [if_pos,Int.toNat_natCast,HM2.out,HM3.out]
     refine ⟨by omega,by rw [Int.toNat_natCast]; exact h2,?_⟩
     rw [Int.toNat_natCast,HM1.out]
     exact (eqL_iff _ _).mp hr
    obtain ⟨M,hM⟩ : ∃ M,m2 ++ N ++ m3 = M:=⟨_,rfl⟩
    rw [hv,hM]
    have HMM:=Aside0.mk hM
    clear hv hr hM
    go_enter Tryz.func101,Tryz.ntmps101
    go_wp2
    go_region_held3 (fun U => U.cell? ⟨W.heap.size,0,none⟩ = some (.int .i64 (a : Int)) ∧ U.cell? ⟨W.heap.size,1,none⟩ = some (.slice AO O.length cO)) (first | exact ⟨b0,b1⟩ | exact ⟨pw_cell_below hb b0,pw_cell_below hb b1⟩) ((go_at_call 135; refine (hEq _ (below_drew HB.out)).mono ?_; rintro e w' ⟨rfl,hb⟩))
    all_goals
     have b0':=pw_cell_below hb b0
     have b2':=pw_cell_below hb b2
     have hB2:=Aside0.mk ((below_drew HB.out).trans (hb.mono (below_drew HB.out).size))
     clear hb b0 b1 b2 hEq HX HB
     have hCat:=concat3_at w' W.heap.size A AN A3 c cN (c - ((a : Int) + (O.length : Int)).toNat) m2 N m3 hB2.out.size (K2'.out _ (Kd.C_below GL.out hB2.out)) (Kd.C_below GN.out hB2.out) (K3'.out _ (Kd.C_below GL.out hB2.out)) hmt.out
     rw [HMM.out] at hCat
     go_wp2
     go_region_held3 (fun U => U.cell? ⟨W.heap.size,0,none⟩ = some (.int .i64 (a : Int)) ∧ U.cell? ⟨W.heap.size,2,none⟩ = some (.slice AN N.length cN)) (first | exact ⟨b0',b2'⟩ | exact ⟨Lib.cell?_alloc_some _ b0',Lib.cell?_alloc_some _ b2'⟩ | exact ⟨pw_cell_below hb3 b0',pw_cell_below hb3 b2'⟩) ((go_at_call 136; refine hCat.mono ?_; rintro e w3 ⟨Y,d,rfl,hrow,hb3⟩))
     all_goals
      go_wp2
      go_ret2
      exact ⟨hB2.out.trans (hb3.mono hB2.out.size),Y,d,rfl,fun M' h => by rw [← Option.some.inj h]; exact OwnRow.lower hrow hB2.out.size⟩
  ·have e1' : decide ((L.length : Int) - (a : Int) < (O.length : Int)) = true:=decide_eq_true (by omega)
   have hv : hunkV L a O N = none:=by
    unfold hunkV
    rw [if_neg]
    rintro ⟨_,h,_⟩
    rw [Int.toNat_natCast] at h
    omega
   rw [hv]
   clear hv
   go_enter Tryz.func101,Tryz.ntmps101
   go_wp2
   go_ret2
   exact ⟨HB.out,_,_,rfl,fun M h => by cases h⟩
 ·have e1 : decide ((L.length : Int) < (a : Int)) = true:=decide_eq_true (by omega)
  have hv : hunkV L a O N = none:=by
   unfold hunkV
   rw [if_neg]
   rintro ⟨_,h,_⟩
   rw [Int.toNat_natCast] at h
   omega
  rw [hv]
  clear hv
  go_enter Tryz.func101,Tryz.ntmps101
  go_wp2
  go_ret2
  exact ⟨HB.out,_,_,rfl,fun M h => by cases h⟩
open Go.RowKit Go.Shelf Go.Proofs.YthhohbidjhcjeaaGreatDoorW.PrintWords Go.Proofs.YthhohbidjhcjeaaGreatDoorW.PrintLast Go.Proofs.YthhohbidjhcjeaaGreatDoorW.PrintMore
set_option maxHeartbeats 8000000 in
set_option maxRecDepth 1000000 in
theorem hunk_at (w : World) (p : S25) (A5 : Option Addr) (c5 : Nat) (A6 : Option Addr) (c6 : Nat) (x : S41) (X : Option Addr) (c g o : Nat) (cur : Array Value) (W : World) (h7 : p.f0 = 7) (ha0 : 0 ≤ p.f4) (ha1 : p.f4 ≤ 1073741824)
  (g5 : Kd.string.C w A5 p.f5.length p.f5) (l5 : p.f5.length ≤ c5) (g6 : Kd.string.C w A6 p.f6.length p.f6) (l6 : p.f6.length ≤ c6) (n5 : p.f5.length ≤ 1000000000) (n6 : p.f6.length ≤ 1000000000) (nx : x.f2.length ≤ 1000000000)
  (hB : Below w.heap.size w W) (hg0 : w.heap.size ≤ g) (hg : W.heap[g]? = some (.cells cur 41 (0,0))) (hx : Ent cur o x X c) (rx : Re w x X c) :
  Calls Tryz.prog 55 #[.pointer (some ⟨g,o,none⟩),.agg #[.int .i64 p.f0,.string p.f1,.string p.f2,.string p.f3,.int .i64 p.f4,.slice A5 p.f5.length c5,.slice A6 p.f6.length c6]] W (Chg w p x g o cur):=by
 obtain ⟨a,ha⟩ : ∃ a : Nat,p.f4 = (a : Int):=⟨p.f4.toNat,by omega⟩
 have hgw : g < W.heap.size:=blk_lt hg
 obtain ⟨W1,hW1⟩ : ∃ W1,W1 = W.alloc (.cells #[.int .i64 p.f0,.string p.f1,.string p.f2,.string p.f3,.int .i64 p.f4,.slice A5 p.f5.length c5,.slice A6 p.f6.length c6] 25):=⟨_,rfl⟩
 have hB1 : Below w.heap.size w W1:=by rw [hW1]; exact below_alloc hB _
 have hg1 : W1.heap[g]? = some (.cells cur 41 (0,0)):=by rw [hW1]; exact blk_alloc hg _
 obtain ⟨b0,b1,b2,b3,b4,b5,b6⟩:=cells7 (show W1.heap[W.heap.size]? = _ by rw [hW1]; exact blk_new W (.cells #[.int .i64 p.f0,.string p.f1,.string p.f2,.string p.f3,.int .i64 p.f4,.slice A5 p.f5.length c5,.slice A6 p.f6.length c6] 25))
 obtain ⟨c0,c1,c2,c3⟩:=ent_cells hg1 hx
 have hc : changeV x p = (hunkV x.f2 p.f4 p.f5 p.f6).map (fun l => { x with f2:=l }):=by unfold changeV; rw [if_pos h7]
 have hCall:=diffApply_at x.f2 p.f5 p.f6 X c a A5 c5 A6 c6 W1.drew (Kd.C_below rx.g (below_drew hB1)) rx.l (Kd.C_below g5 (below_drew hB1)) l5 (Kd.C_below g6 (below_drew hB1)) l6 (by omega) nx n5 n6
 rw [← ha] at hCall
 have hend : ∀ (r : Option (List ByteArray)) (W2 : World) (Y : Option Addr) (d : Nat),hunkV x.f2 p.f4 p.f5 p.f6 = r → Below W1.drew.heap.size W1.drew W2 → (∀ M,r = some M → RowS W1.drew W2 (.slice Y M.length d) M) → Chg w p x g o cur (.returned (.bool r.isSome)) (W2.setCell ⟨g,o + 2,none⟩ (.slice Y (r.getD []).length d)):=by
  intro r W2 Y d hr hb2 hM
  have hB2 : Below w.heap.size w W2:=(below_drew hB1).trans (hb2.mono (below_drew hB1).size)
  have hg2 : W2.heap[g]? = some (.cells cur 41 (0,0)):=blk_below (blk_drew hg1) hb2
  have hb : Below w.heap.size w (W2.setCell ⟨g,o + 2,none⟩ (.slice Y (r.getD []).length d)):=below_set hB2 hg0
  refine ⟨by rw [hc,hr]; cases r <;> rfl,hb,_,blk_set hg2 (o + 2) _,same_set o 2 (by omega) _ _,fun y hy => ?_⟩
  rw [hc,hr] at hy
  obtain ⟨M,hM1,rfl⟩:=Option.map_eq_some_iff.mp hy
  subst hM1
  have hrow:=hM M rfl
  have hrow2 : RowS W1.drew (W2.setCell ⟨g,o + 2,none⟩ (.slice Y M.length d)) (.slice Y M.length d) M:=OwnRow.set_ hrow hg2 (by decide) _ _
  obtain ⟨Y',d',he,hd,hcm⟩:=hrow2.C
  injection he with e1 e2 e3
  subst e1
  subst e3
  exact ⟨Y,d,ent_set2 hx M Y d,hd,hcm⟩
 have HEND:=Aside0.mk hend
 obtain ⟨r,hr⟩ : ∃ r,hunkV x.f2 p.f4 p.f5 p.f6 = r:=⟨_,rfl⟩
 rw [hr] at hCall
 have HR:=Aside0.mk hr
 have f2:=blk_frozen hg1 (o + 2)
 have HG1:=Aside0.mk hg1
 clear hend hc rx hB hg0 hg h7 ha0 ha1 ha g5 l5 g6 l6 n5 n6 nx hr b0 b1 b2 b3 c0 c1 c3 hB1
 subst hW1
 go_enter Tryz.func55,Tryz.ntmps55
 go_wp2
 go_region_held3 (fun U => U.cell? ⟨g,o + 2,none⟩ = some (.slice X x.f2.length c) ∧ U.cell? ⟨W.heap.size,4,none⟩ = some (.int .i64 p.f4) ∧ U.cell? ⟨W.heap.size,5,none⟩ = some (.slice A5 p.f5.length c5) ∧ U.cell? ⟨W.heap.size,6,none⟩ = some (.slice A6 p.f6.length c6)) (first | exact ⟨c2,b4,b5,b6⟩ | exact ⟨pw_cell_below hb c2,pw_cell_below hb b4,pw_cell_below hb b5,pw_cell_below hb b6⟩) ((go_at_call 101; refine hCall.mono ?_; rintro e w' ⟨hb,Y,d,rfl,hM⟩))
 all_goals
  have f2':=blk_frozen (blk_below (blk_drew HG1.out) hb) (o + 2)
  have c2':=pw_cell_below hb c2
  go_wp2
  go_ret
  exact HEND.out _ _ _ _ HR.out hb hM
theorem one_news {W : World} {b : Nat} {u : Value} (h : W.cell? ⟨b,0,none⟩ = some u) : ∀ j x,[u][j]? = some x → W.cell? ((⟨b,0,none⟩ : Addr).add j) = some x:=by
 intro j x hx
 rcases j with _ | j
 ·simp only [List.getElem?_cons_zero,Option.some.injEq] at hx
  subst hx
  exact h
 ·simp at hx
theorem containsS_at (w U : World) (v : Value) (xs : List ByteArray) (h : RowS w U v xs) (x : ByteArray) :
  Calls Tryz.prog 102 #[v,.string x] U fun e w' => e = .returned (.bool (Lib.containsS xs x)) ∧ w' = U:=by
 obtain ⟨A,c,rfl,hc,hr⟩:=OwnRow.reads h
 rcases Nat.eq_zero_or_pos xs.length with h0 | h0
 ·rw [h0]
  rw [List.length_eq_zero_iff] at h0
  subst h0
  exact Tryz.slices_Contains_string_empty A c x U
 ·obtain ⟨ad,rfl,hcell⟩:=hr.2.2 h0
  have hpl : ad = ⟨ad.block,ad.off,none⟩:=by
   obtain ⟨inner,⟨_,⟨e,_⟩ | ⟨g,cap,cur,e,_⟩⟩,_⟩:=h
   ·cases e
   ·cases e; rfl
  obtain ⟨b,off,hbo⟩ : ∃ b off,ad = ⟨b,off,none⟩:=⟨_,_,hpl⟩
  subst hbo
  have hcc : ∀ j,j < xs.length → U.cell? ⟨b,off + j,none⟩ = some (.string (xs.getD j ByteArray.empty)):=by
   intro j hj
   obtain ⟨cs,hl,hR,hu⟩:=hcell j _ (List.getElem?_eq_getElem hj)
   have:=hu 0 (.string xs[j]) (by rw [show cs = [.string xs[j]] from hR]; rfl)
   rw [Nat.mul_one,Nat.add_zero] at this
   rw [List.getD_eq_getElem?_getD,List.getElem?_eq_getElem hj]
   rw [show (⟨b,off,none⟩ : Addr).add j = ⟨b,off + j,none⟩ from by simp [Addr.add]] at this
   exact this
  have h:=Tryz.slices_Contains_string b off xs.length c xs x U (Nat.le_refl _) hr.2.1 hcc
  rw [List.take_length] at h
  exact h
theorem tok_any (l : List ByteArray) (fr to_ : ByteArray) : tokV l fr to_ = if l.any (fun s => Lib.containsS (piecesV s) to_) then none else some (l.map (fun s => replV s fr to_)):=by
 have key : ∀ s,(runs s.data.toList).contains to_.data.toList = Lib.containsS (piecesV s) to_:=by
  intro s
  rw [Bool.eq_iff_iff,List.contains_iff_mem,Lib.containsS_iff]
  unfold piecesV
  rw [List.mem_map]
  constructor
  ·intro h; exact ⟨_,h,rfl⟩
  ·rintro ⟨r,hr,e⟩
   rw [← e]
   exact hr
 unfold tokV
 simp only [key]
theorem tok_no {l : List ByteArray} {fr to_ : ByteArray} {s : ByteArray} (hs : s ∈ l) (h : Lib.containsS (piecesV s) to_ = true) : tokV l fr to_ = none:=by
 rw [tok_any,if_pos (List.any_eq_true.2 ⟨s,hs,h⟩)]
theorem tok_yes {l : List ByteArray} {fr to_ : ByteArray} (h : ∀ s ∈ l,Lib.containsS (piecesV s) to_ = false) : tokV l fr to_ = some (l.map (fun s => replV s fr to_)):=by
 rw [tok_any,if_neg]
 rw [List.any_eq_true]
 rintro ⟨s,hs,h2⟩
 rw [h s hs] at h2
 cases h2
set_option maxHeartbeats 4000000 in
set_option maxRecDepth 1000000 in
theorem token_at (w : World) (p : S25) (v5 v6 : Value) (x : S41) (X : Option Addr) (c g o : Nat) (cur : Array Value) (W : World) (h5 : v5.oneCell' = true) (h6 : v6.oneCell' = true) (h8 : p.f0 = 8)
  (htk : tokenB p.f3 = true) (ht2 : p.f2.size ≤ 100000) (nx : x.f2.length ≤ 1000000000) (nl : ∀ s ∈ x.f2,s.size ≤ 1000000000)
  (hB : Below w.heap.size w W) (hg0 : w.heap.size ≤ g) (hg : W.heap[g]? = some (.cells cur 41 (0,0))) (hx : Ent cur o x X c) (rx : Re w x X c) :
  Calls Tryz.prog 56 #[.pointer (some ⟨g,o,none⟩),.agg #[.int .i64 p.f0,.string p.f1,.string p.f2,.string p.f3,.int .i64 p.f4,v5,v6]] W (Chg w p x g o cur):=by
 have hgw : g < W.heap.size:=blk_lt hg
 obtain ⟨W1,hW1⟩ : ∃ W1,W1 = W.alloc (.cells #[.int .i64 p.f0,.string p.f1,.string p.f2,.string p.f3,.int .i64 p.f4,v5,v6] 25):=⟨_,rfl⟩
 have hB1 : Below w.heap.size w W1:=by rw [hW1]; exact below_alloc hB _
 have hg1 : W1.heap[g]? = some (.cells cur 41 (0,0)):=by rw [hW1]; exact blk_alloc hg _
 obtain ⟨b0,b1,b2,b3,b4,b5,b6⟩:=cells7 (show W1.heap[W.heap.size]? = _ by rw [hW1]; exact blk_new W (.cells #[.int .i64 p.f0,.string p.f1,.string p.f2,.string p.f3,.int .i64 p.f4,v5,v6] 25))
 obtain ⟨c0,c1,c2,c3⟩:=ent_cells hg1 hx
 have hc : changeV x p = (tokV x.f2 p.f3 p.f2).map (fun l => { x with f2:=l }):=by unfold changeV; rw [if_neg (by omega),if_pos h8]
 have hno : ∀ W2,Below W1.heap.size W1 W2 → tokV x.f2 p.f3 p.f2 = none → Chg w p x g o cur (.returned (.bool false)) W2:=by
  intro W2 hb2 hn
  refine ⟨by rw [hc,hn]; rfl,hB1.trans (hb2.mono hB1.size),cur,blk_below hg1 hb2,⟨rfl,fun _ _ => rfl⟩,fun y hy => ?_⟩
  rw [hc,hn] at hy
  cases hy
 have hend : ∀ (W2 : World) (Y : Option Addr) (d : Nat),Below W1.heap.size W1 W2 → tokV x.f2 p.f3 p.f2 = some (x.f2.map (fun s => replV s p.f3 p.f2)) → RowS W1 W2 (.slice Y x.f2.length d) (x.f2.map (fun s => replV s p.f3 p.f2)) →
   Chg w p x g o cur (.returned (.bool true)) (W2.setCell ⟨g,o + 2,none⟩ (.slice Y x.f2.length d)):=by
  intro W2 Y d hb2 hs hrow
  have hB2 : Below w.heap.size w W2:=hB1.trans (hb2.mono hB1.size)
  have hg2 : W2.heap[g]? = some (.cells cur 41 (0,0)):=blk_below hg1 hb2
  have hb : Below w.heap.size w (W2.setCell ⟨g,o + 2,none⟩ (.slice Y x.f2.length d)):=below_set hB2 hg0
  refine ⟨by rw [hc,hs]; rfl,hb,_,blk_set hg2 (o + 2) _,same_set o 2 (by omega) _ _,fun y hy => ?_⟩
  rw [hc,hs] at hy
  rw [← Option.some.inj hy]
  have hrow2 : RowS W1 (W2.setCell ⟨g,o + 2,none⟩ (.slice Y x.f2.length d)) (.slice Y x.f2.length d) _:=OwnRow.set_ hrow hg2 (by decide) _ _
  obtain ⟨Y',d',he,hd,hcm⟩:=hrow2.C
  injection he with e1 e2 e3
  subst e1
  subst e3
  have hlen : x.f2.length = (x.f2.map (fun s => replV s p.f3 p.f2)).length:=by simp
  have hent:=ent_set2 hx (x.f2.map (fun s => replV s p.f3 p.f2)) Y d
  rw [← hlen] at hent
  exact ⟨Y,d,hent,hd,hcm⟩
 have hrd : ∀ (i : Nat) (hi : i < x.f2.length),∃ ad,X = some ad ∧ W1.cell? (ad.add i) = some (.string x.f2[i]):=by
  intro i hi
  have hC:=Kd.C_below rx.g hB1
  obtain ⟨ad,he,hcell⟩:=hC.2.2 (by omega)
  obtain ⟨cs,hl,hR,hu⟩:=hcell i _ (List.getElem?_eq_getElem hi)
  refine ⟨ad,he,?_⟩
  have:=hu 0 (.string x.f2[i]) (by rw [show cs = [.string x.f2[i]] from hR]; rfl)
  rw [show i * Kd.string.sz + 0 = i from Nat.mul_one i] at this
  exact this
 obtain ⟨l,hl⟩ : ∃ l,x.f2 = l:=⟨_,rfl⟩
 rw [hl] at hend hno hrd nx nl c2
 obtain ⟨n,hn⟩ : ∃ n,l.length = n:=⟨_,rfl⟩
 have HN:=Aside0.mk hn
 have HEND:=Aside0.mk hend
 have HNO:=Aside0.mk hno
 have HRD:=Aside0.mk hrd
 have HNL:=Aside0.mk nl
 have HTK:=Aside0.mk htk
 have HG1:=Aside0.mk hg1
 have f2:=blk_frozen hg1 (o + 2)
 obtain ⟨i0',hi',hz0,hz1,hz2⟩:=info_parts infoS
 replace hi':=Aside0.mk hi'
 replace hz0:=Aside0.mk hz0
 replace hz1:=Aside0.mk hz1
 replace hz2:=Aside0.mk hz2
 rw [hn] at c2 nx
 clear hend hno hrd nl htk hg1 hc rx hx hB hg0 hg h8 hn hl b0 b1 b4 b5 b6 c0 c1 c3 hB1
 have HC2:=Aside0.mk c2
 have hWs : W.heap.size < W1.heap.size:=by rw [hW1,World.size_alloc]; omega
 have hg1s : g < W1.heap.size:=by omega
 go_enter Tryz.func56,Tryz.ntmps56
 rw [hW1] at c2
 go_wp2
 rw [← hW1]
 go_loopg [5,13] n (fun kq u5 u13 w' => ∃ (i : Nat),u13 = .int .i64 (i : Int) ∧ Aside0 (i + kq = n) ∧ Aside0 (∀ s ∈ l.take i,Lib.containsS (piecesV s) p.f2 = false) ∧ Aside0 (RowS W1 w' u5 ((l.take i).map (fun s => replV s p.f3 p.f2))) ∧ Aside0 (Below W1.heap.size W1 w'))
 case atStart => exact ⟨0,rfl,⟨by omega⟩,⟨by simp⟩,⟨rowS_nil _ _⟩,⟨Below.refl _ _⟩⟩
 case round =>
  obtain ⟨i,rfl,hk,hnc,hR,hB⟩:=hrel
  by_cases hi : i < n
  ·have hil : i < l.length:=by rw [HN.out]; exact hi
   obtain ⟨ad,hX,hcell⟩:=HRD.out i hil
   subst hX
   have hcmp : decide ((i : Int) < (n : Int)) = true:=decide_eq_true (by omega)
   have i0 : (0 : Int) ≤ (i : Int):=by omega
   have i1 : (i : Int) < (n : Int):=by omega
   have hwi : IntKind.i64.wrap ((i : Int) + 1) = (i : Int) + 1:=wrap_small _ (by omega) (by omega)
   have hcw:=pw_cell_below hB.out hcell
   have d2:=pw_cell_below hB.out b2
   have d3:=pw_cell_below hB.out b3
   have htake : l.take (i + 1) = l.take i ++ [l[i]]:=by rw [List.take_append_getElem]
   have hsl:=HNL.out l[i] (List.getElem_mem _)
   have hsm : l[i] ∈ l:=List.getElem_mem _
   have hlm : ((l.take i).map (fun s => replV s p.f3 p.f2)).length = i:=by rw [List.length_map,List.length_take]; omega
   obtain ⟨s,hs⟩ : ∃ s,l[i] = s:=⟨_,rfl⟩
   rw [hs] at hcw htake hsl hsm
   obtain ⟨r,hr⟩ : ∃ r,Lib.containsS (piecesV s) p.f2 = r:=⟨_,rfl⟩
   have hT:=tokens_at s wr.drew hsl
   have hCo : ∀ U v,RowS wr.drew U v (piecesV s) → Calls Tryz.prog 102 #[v,.string p.f2] U fun e w' => e = .returned (.bool r) ∧ w' = U:=fun U v h => by rw [← hr]; exact containsS_at _ _ _ _ h _
   have hRp:=fun U => replace_at s p.f3 p.f2 U hsl ht2 HTK.out
   obtain ⟨y,hy⟩ : ∃ y,replV s p.f3 p.f2 = y:=⟨_,rfl⟩
   rw [hy] at hRp
   obtain ⟨inner5,hown,hr5⟩:=hR.out
   rw [hlm] at hown
   have hn1 : Aside0 (i + 1 ≤ maxLen):=⟨by unfold maxLen; omega⟩
   have hn2 : Aside0 ((i + 1) * 16 ≤ 140737488355328):=⟨by omega⟩
   replace hown:=Aside0.mk hown
   replace hr5:=Aside0.mk hr5
   replace hr:=Aside0.mk hr
   replace hy:=Aside0.mk hy
   replace htake:=Aside0.mk htake
   replace hsm:=Aside0.mk hsm
   replace hlm:=Aside0.mk hlm
   clear hcell hs hsl c2
   cases r with
   | true =>
    go_upto_region 5 with (fail)
    go_region_held3 (fun U => U.cell? ⟨W.heap.size,2,none⟩ = some (.string p.f2)) (first | exact d2 | exact pw_cell_below hb d2) (first | (go_at_call 103; refine hT.mono ?_; rintro e w2 ⟨v,rfl,hrow,hb⟩) | (go_at_call 102; refine (hCo _ _ hrow).mono ?_; rintro e w3 ⟨rfl,rfl⟩))
    all_goals go_wp2
    all_goals go_ret
    all_goals exact HNO.out _ (hB.out.trans (((below_drew (Below.refl _ _)).trans (hb.mono (Nat.le_refl _))).mono hB.out.size)) (tok_no hsm.out hr.out)
   | false =>
    go_upto_region 5 with (fail)
    go_region_held3 (fun U => U.cell? ⟨W.heap.size,2,none⟩ = some (.string p.f2)) (first | exact d2 | exact pw_cell_below hb d2) (first | (go_at_call 103; refine hT.mono ?_; rintro e w2 ⟨v,rfl,hrow,hb⟩) | (go_at_call 102; refine (hCo _ _ hrow).mono ?_; rintro e w3 ⟨rfl,rfl⟩))
    all_goals
     have hb4 : Below wr.heap.size wr w3:=(below_drew (Below.refl _ _)).trans (hb.mono (Nat.le_refl _))
     have d2':=pw_cell_below hb4 d2
     have d3':=pw_cell_below hb4 d3
     replace hrow:=Aside0.mk hrow
     replace hb4:=Aside0.mk hb4
     clear hb hCo hT d2 d3 b2 b3 hcw
     go_wp2_with (first
      | (go_at_call 104; refine (hRp _).mono ?_; rintro e w5 ⟨rfl,hb3⟩; have hb5 : Below wr.heap.size wr (w5.alloc (.cells #[.string y] 9)):=below_alloc (hb4.out.trans (hb3.mono hb4.out.size)) _; have hcy:=(Boxed.new w5 9 (.string y)).cell; replace hb5:=Aside0.mk hb5; replace hb3:=Aside0.mk hb3; replace hcy:=Aside0.mk hcy)
      | (at_builtin; refine wpList_append_own_at _ rfl _ _ 23 rfl W1.heap.size 9 i0' _ 1 16 Tryz.underlying23 hi'.out hz0.out hz1.out hz2.out rfl (by omega) _ _ _ rfl (pw_own_below hown.out hb5.out) ⟨w5.heap.size,0,none⟩ 1 1 [.string y] rfl rfl (one_news hcy.out) (by simp [Value.oneCell']) hn1.out hn2.out (Nat.le_trans hB.out.size hb5.out.size) ?_; intro v' w4 hown4 hgrow hnil hblk; have hB4 : Below W1.heap.size W1 w4:=(hB.out.trans (hb5.out.mono hB.out.size)).grown hgrow (Nat.le_trans hB.out.size hb5.out.size) (fun k hk => own_base hown.out k hk); replace hB4:=Aside0.mk hB4; replace hown4:=Aside0.mk hown4; clear hgrow hnil hblk))
     have hR4 : Aside0 (RowS W1 w4 v' ((l.take (i + 1)).map (fun s => replV s p.f3 p.f2))):=⟨by
      rw [htake.out,List.map_append,List.map_cons,List.map_nil,hy.out]
      refine ⟨_,?_,Reps.snoc (c:=[.string y]) (p:=y) hr5.out rfl rfl⟩
      rw [List.length_append,hlm.out]
      exact hown4.out⟩
     have hnc4 : Aside0 (∀ t ∈ l.take (i + 1),Lib.containsS (piecesV t) p.f2 = false):=⟨by
      rw [htake.out]
      intro t ht
      rcases List.mem_append.1 ht with ht | ht
      ·exact hnc.out t ht
      ·rw [List.mem_singleton.1 ht]
       exact hr.out⟩
     go_roundg (n - (i + 1))
     case measure => have:=hk.out; omega
     case rel => exact ⟨i + 1,by simp,⟨by omega⟩,hnc4,hR4,hB4⟩
  ·have hcmp : decide ((i : Int) < (n : Int)) = false:=decide_eq_false (by omega)
   have hin : i = n:=by have:=hk.out; omega
   have htk : l.take i = l:=by rw [hin,← HN.out,List.take_length]
   rw [htk] at hR hnc
   have hyes : Aside0 (tokV l p.f3 p.f2 = some (l.map (fun s => replV s p.f3 p.f2))):=⟨tok_yes hnc.out⟩
   obtain ⟨Y,d,hu5,hd⟩:=hR.out.slice
   rw [List.length_map,HN.out] at hu5
   subst hu5
   have c2w:=pw_cell_below hB.out HC2.out
   have f2w:=blk_frozen (blk_below HG1.out hB.out) (o + 2)
   have HE:=Aside0.mk (HEND.out wr Y d hB.out hyes.out)
   rw [HN.out] at HE
   clear hd hin htk c2 f2
   go_wp2
   go_ret
   exact HE.out hR.out
theorem reps_set {w W' : World} {l : List S41} {inner : List Value} {cur cur' : Array Value} {i : Nat} {y : S41} {Y : Option Addr} {d : Nat} (hr : Reps (Rw w) 4 l inner) (hin : cur.toList.take (l.length * 4) = inner) (hsz : l.length * 4 ≤ cur.size) (hb : Below w.heap.size w W')
  (hs : SameBut (i * 4) cur cur') (hi : i < l.length) (he : Ent cur' (i * 4) y Y d) (ry : Re W' y Y d) : Reps (Rw W') 4 (l.set i y) (cur'.toList.take (l.length * 4)):=by
 obtain ⟨hs1,hs2⟩:=hs
 have hcl : cur'.toList.length = cur.size:=by rw [Array.length_toList,hs1]
 refine ⟨by rw [List.length_take,hcl,List.length_set]; omega,fun j q hq => ?_⟩
 have hj : j < l.length:=by
  have:=(List.getElem?_eq_some_iff.1 hq).1
  rwa [List.length_set] at this
 rw [List.getElem?_set] at hq
 by_cases hij : i = j
 ·subst hij
  rw [if_pos rfl,if_pos hi] at hq
  have:=Option.some.inj hq
  subst this
  refine ⟨Y,d,?_,ry⟩
  apply List.ext_getElem?
  intro k
  rw [List.getElem?_take,List.getElem?_drop,List.getElem?_take]
  match k with
  | 0 => rw [if_pos (by omega),if_pos (by omega)]; simpa using he.c0
  | 1 => rw [if_pos (by omega),if_pos (by omega)]; simpa using he.c1
  | 2 => rw [if_pos (by omega),if_pos (by omega)]; simpa using he.c2
  | 3 => rw [if_pos (by omega),if_pos (by omega)]; simpa using he.c3
  | _ + 4 => rw [if_neg (by omega)]; simp
 ·rw [if_neg hij] at hq
  obtain ⟨X,c,e,rx⟩:=hr.2 j q hq
  refine ⟨X,c,?_,rx.later hb⟩
  rw [← e,← hin]
  apply List.ext_getElem?
  intro k
  rw [List.getElem?_take,List.getElem?_drop,List.getElem?_take,List.getElem?_take,List.getElem?_drop,List.getElem?_take]
  by_cases hk : k < 4
  ·rw [if_pos hk,if_pos hk]
   by_cases hk2 : j * 4 + k < l.length * 4
   ·rw [if_pos hk2,if_pos hk2]
    have:=hs2 (j * 4 + k) (by omega)
    simpa using this
   ·rw [if_neg hk2,if_neg hk2]
  ·rw [if_neg hk,if_neg hk]
set_option maxHeartbeats 8000000 in
set_option maxRecDepth 1000000 in
theorem changing55_at (l : List S41) (A : Option Addr) (c : Nat) (p : S25) (v5 v6 : Value) (B : Nat) (w : World) (h5 : v5.oneCell' = true) (h6 : v6.oneCell' = true)
  (hr : Kd.C k41 w A l.length l) (hl : l.length ≤ 1000000000) (hs : Srt l) (hk0 : 0 ≤ p.f0) (hk1 : p.f0 ≤ 10) (hF : w.heap[B]? = some (.cells #[.func (.func 55) #[] #[]] 76 (0,0)))
  (hchg : ∀ (u : World) (x : S41) (X : Option Addr) (d g o : Nat) (cur : Array Value) (W : World),findV l p.f1 = some x → x.f1 = kindV p.f0 → Below w.heap.size w u → Below u.heap.size u W → u.heap.size ≤ g → W.heap[g]? = some (.cells cur 41 (0,0)) → Ent cur o x X d → Re u x X d →
   Calls Tryz.prog 55 #[.pointer (some ⟨g,o,none⟩),.agg #[.int .i64 p.f0,.string p.f1,.string p.f2,.string p.f3,.int .i64 p.f4,v5,v6]] W (Chg u p x g o cur)) :
  Calls Tryz.prog 100 #[.slice A l.length c,.agg #[.int .i64 p.f0,.string p.f1,.string p.f2,.string p.f3,.int .i64 p.f4,v5,v6],.pointer (some ⟨B,0,none⟩)] w (Ans w (changeL l p) (changeE l p)):=by
 have eg : ∀ args w,(callFunc 55 args).run Tryz.prog w = .ok (.enter 55 args) w:=enters_of Tryz.func55 (by kernel_rfl) rfl
 have HB : Aside0 (Below w.heap.size w (w.alloc (.cells #[.int .i64 p.f0,.string p.f1,.string p.f2,.string p.f3,.int .i64 p.f4,v5,v6] 25))):=⟨below_alloc (Below.refl _ _) _⟩
 have HX : Aside0 ((w.alloc (.cells #[.int .i64 p.f0,.string p.f1,.string p.f2,.string p.f3,.int .i64 p.f4,v5,v6] 25)).heap[w.heap.size]? = some (.cells #[.int .i64 p.f0,.string p.f1,.string p.f2,.string p.f3,.int .i64 p.f4,v5,v6] 25 (0,0))):=⟨blk_new _ _⟩
 have h1:=there_at l A c p.f0 p.f1 (.string p.f2) (.string p.f3) (.int .i64 p.f4) v5 v6 _ rfl rfl rfl h5 h6 (Kd.C_below hr HB.out) hl hs hk0 hk1
 obtain ⟨b0,b1,b2,b3,b4,b5,b6⟩:=cells7 HX.out
 have HR:=Aside0.mk hr
 have HS:=Aside0.mk hs
 have HL:=Aside0.mk hl
 have HC:=Aside0.mk hchg
 have HF:=Aside0.mk hF
 obtain ⟨t,ht⟩ : ∃ t,thereV l p.f1 p.f0 = t:=⟨_,rfl⟩
 have HT:=Aside0.mk ht
 rw [ht] at h1
 clear hr hs hl ht hchg hF hk0 hk1
 by_cases h0 : t = 0
 ·subst h0
  obtain ⟨x,hfx,hkx⟩:=there_zero.mp HT.out
  obtain ⟨hx,hlo⟩:=(has_find HS.out p.f1).2 x hfx
  obtain ⟨j,hj⟩ : ∃ j,lowB l p.f1 = j:=⟨_,rfl⟩
  have hE : changeE l p = if (changeV x p).isSome then 0 else 81:=by
   unfold changeE thingAt
   rw [HT.out,if_pos rfl,hfx,Option.getD_some]
  have hLL : ∀ y,changeV x p = some y → changeL l p = l.set j y:=by
   intro y hy
   rw [change_L hfx hy]
   unfold setL
   rw [hj]
  rw [hj] at hx hlo h1
  rw [hE]
  have FX:=Aside0.mk hfx
  have KX:=Aside0.mk hkx
  have LL:=Aside0.mk hLL
  have hj0 : (0 : Int) ≤ (j : Int):=by omega
  have hj1 : (j : Int) < (l.length : Int):=by omega
  clear hfx hkx hE hj hLL
  obtain ⟨r,hrr⟩ : ∃ r,(changeV x p).isSome = r:=⟨_,rfl⟩
  rw [hrr]
  have RR:=Aside0.mk hrr
  obtain ⟨err,herr⟩ : ∃ err : Int,(if r = true then (0 : Int) else 81) = err:=⟨_,rfl⟩
  rw [herr]
  have ER:=Aside0.mk herr
  clear hrr herr
  go_enter Tryz.func100,Tryz.ntmps100
  go_upto_region 4 with (go_at_call 95; refine h1.mono ?_; rintro e w1 ⟨⟨i,rfl,hi⟩,hb⟩)
  obtain rfl : i = j:=hi trivial
  have hB1:=Aside0.mk (HB.out.trans (hb.mono HB.out.size))
  have hX1:=Aside0.mk (blk_below HX.out hb)
  have hcl:=clone_at w1 l A c w1 (Below.refl _ _) HL.out (rows_rw (Kd.C_below HR.out hB1.out) (Below.refl _ _))
  clear b0 b1 b2 b3 b4 b5 b6 HB HX h1 hb hi
  go_upto_region 5 with (go_at_call 73; refine hcl.mono ?_; rintro e w2 ⟨v,rfl,hrow,hb2,hown⟩)
  obtain ⟨inner,⟨hlen,ho⟩,hrp⟩:=hrow
  rcases ho with ⟨rfl,hn0⟩ | ⟨g,cap,cur,rfl,hg,hh,hnc,hcm,hcs,ht⟩
  ·omega
  ·obtain ⟨X,d,hcs4,rx⟩:=hrp.2 i x (by rw [List.getElem?_eq_getElem hlo,← getD_get hlo,hx])
   have hent : Ent cur (i * 4) x X d:=by
    have key : ∀ k u,[Value.string x.f0,Value.int .i64 x.f1,Value.slice X x.f2.length d,Value.string x.f3][k]? = some u → cur[i * 4 + k]? = some u:=by
     intro k u hu
     rw [← hcs4,List.getElem?_take] at hu
     split at hu
     ·rw [List.getElem?_drop,← ht,List.getElem?_take] at hu
      split at hu
      ·simpa using hu
      ·cases hu
     ·cases hu
    exact ⟨key 0 _ rfl,key 1 _ rfl,key 2 _ rfl,key 3 _ rfl⟩
   have hBu:=hB1.out
   have hcall:=fun W (hb3 : Below w2.heap.size w2 W) => HC.out w1 x X d g (i * 4) cur W FX.out KX.out hB1.out (hb2.trans (hb3.mono hb2.size)) hg (blk_below hh hb3) hent rx
   obtain ⟨d0,d1,d2,d3,d4,d5,d6⟩:=cells7 hX1.out
   have dF:=(blk_cell (blk_below HF.out hB1.out) 0).trans (show _ = some (Value.func (.func 55) #[] #[]) from rfl)
   have DS:=Aside0.mk (And.intro dF (And.intro d0 (And.intro d1 (And.intro d2 (And.intro d3 (And.intro d4 (And.intro d5 d6)))))))
   clear d0 d1 d2 d3 d4 d5 d6 dF
   have hX2:=blk_below hX1.out hb2
   have hF2:=blk_below (blk_below HF.out hB1.out) hb2
   have cF:=(blk_cell hF2 0).trans (show _ = some (Value.func (.func 55) #[] #[]) from rfl)
   obtain ⟨b0,b1,b2,b3,b4,b5,b6⟩:=cells7 hX2
   have HB2:=Aside0.mk hb2
   have HG:=Aside0.mk hg
   have HCM:=Aside0.mk hcm
   have HCS:=Aside0.mk hcs
   have HTT:=Aside0.mk ht
   have HRP:=Aside0.mk hrp
   have HNC:=Aside0.mk hnc
   clear hcl hb2 hg hcm hcs ht hrp hnc hlen hown hX2 hF2 hh hent hcs4 rx hBu
   go_wp2
   go_region_held3 (fun U => U.cell? ⟨B,0,none⟩ = some (.func (.func 55) #[] #[]) ∧ U.cell? ⟨w.heap.size,0,none⟩ = some (.int .i64 p.f0) ∧ U.cell? ⟨w.heap.size,1,none⟩ = some (.string p.f1) ∧ U.cell? ⟨w.heap.size,2,none⟩ = some (.string p.f2) ∧ U.cell? ⟨w.heap.size,3,none⟩ = some (.string p.f3) ∧ U.cell? ⟨w.heap.size,4,none⟩ = some (.int .i64 p.f4) ∧ U.cell? ⟨w.heap.size,5,none⟩ = some v5 ∧ U.cell? ⟨w.heap.size,6,none⟩ = some v6) (first | exact ⟨cF,b0,b1,b2,b3,b4,b5,b6⟩ | exact ⟨pw_cell_below hb4 DS.out.1,pw_cell_below hb4 DS.out.2.1,pw_cell_below hb4 DS.out.2.2.1,pw_cell_below hb4 DS.out.2.2.2.1,pw_cell_below hb4 DS.out.2.2.2.2.1,pw_cell_below hb4 DS.out.2.2.2.2.2.1,pw_cell_below hb4 DS.out.2.2.2.2.2.2.1,pw_cell_below hb4 DS.out.2.2.2.2.2.2.2⟩) ((go_at_fn 55; refine (hcall _ (below_drew (Below.refl _ _))).mono ?_; rintro e w3 ⟨he,hb4,cur',hh4,hsb,hy4⟩; rw [RR.out] at he; subst he))
   all_goals
    have hB4:=Aside0.mk (hB1.out.trans (hb4.mono hB1.out.size))
    have HY:=Aside0.mk hy4
    have HH4:=Aside0.mk hh4
    have HSB:=Aside0.mk hsb
    have HB4:=Aside0.mk hb4
    clear hy4 hh4 hsb hb4 cF b0 b1 b2 b3 b4 b5 b6 hcall
    cases r with
    | false =>
     go_wp2
     go_ret2
     exact ⟨hB4.out,by have he : err = 81:=(by rw [← ER.out]; rfl); rw [he]; rfl⟩
    | true =>
     go_wp2
     go_ret2
     refine ⟨hB4.out,?_⟩
     rw [if_pos (show err = 0 by rw [← ER.out]; rfl)]
     obtain ⟨y,hy⟩:=Option.isSome_iff_exists.1 RR.out
     obtain ⟨Y,d',he,ry⟩:=HY.out y hy
     rw [LL.out y hy]
     have hlen : (l.set i y).length = l.length:=List.length_set
     have hrp2:=reps_set HRP.out HTT.out (by rw [HCS.out]; have:=HNC.out; omega) HB4.out HSB.out hlo he ry
     have hown2 : OwnRow (Rw w3) 41 4 w3 w1.heap.size (.slice (some ⟨g,0,none⟩) l.length cap) (l.set i y) :=
      ⟨_,⟨hrp2.1,Or.inr ⟨g,cap,cur',by rw [hlen],HG.out,HH4.out,by rw [hlen]; exact HNC.out,HCM.out,by rw [HSB.out.1,HCS.out],by rw [hlen]⟩⟩,hrp2⟩
     obtain ⟨A',c',he',hc',hrr⟩:=OwnRow.reads hown2
     injection he' with e1 e2 e3
     subst e1
     subst e3
     refine ⟨_,cap,by rw [hlen]; rfl,hc',?_⟩
     refine ReadsRow.imp_ hrr (Below.refl _ _) ?_
     rintro pp cl ⟨X',x',rfl,rx'⟩
     exact k41_mk w3 pp rx'.l rx'.g
 ·have hE : changeE l p = t:=by unfold changeE; rw [HT.out,if_neg h0]
  rw [hE]
  have hne : (t == 0) = false:=by simp [h0]
  have hne2 : (t != 0) = true:=by simp [h0]
  go_enter Tryz.func100,Tryz.ntmps100
  go_wp2_with (go_at_call 95; refine h1.mono ?_; rintro e w1 ⟨⟨i,rfl,hi⟩,hb⟩)
  go_ret2
  exact ⟨HB.out.trans (hb.mono HB.out.size),by rw [if_neg h0]; rfl⟩
set_option maxHeartbeats 8000000 in
set_option maxRecDepth 1000000 in
theorem changing56_at (l : List S41) (A : Option Addr) (c : Nat) (p : S25) (v5 v6 : Value) (B : Nat) (w : World) (h5 : v5.oneCell' = true) (h6 : v6.oneCell' = true)
  (hr : Kd.C k41 w A l.length l) (hl : l.length ≤ 1000000000) (hs : Srt l) (hk0 : 0 ≤ p.f0) (hk1 : p.f0 ≤ 10) (hF : w.heap[B]? = some (.cells #[.func (.func 56) #[] #[]] 76 (0,0)))
  (hchg : ∀ (u : World) (x : S41) (X : Option Addr) (d g o : Nat) (cur : Array Value) (W : World),findV l p.f1 = some x → x.f1 = kindV p.f0 → Below w.heap.size w u → Below u.heap.size u W → u.heap.size ≤ g → W.heap[g]? = some (.cells cur 41 (0,0)) → Ent cur o x X d → Re u x X d →
   Calls Tryz.prog 56 #[.pointer (some ⟨g,o,none⟩),.agg #[.int .i64 p.f0,.string p.f1,.string p.f2,.string p.f3,.int .i64 p.f4,v5,v6]] W (Chg u p x g o cur)) :
  Calls Tryz.prog 100 #[.slice A l.length c,.agg #[.int .i64 p.f0,.string p.f1,.string p.f2,.string p.f3,.int .i64 p.f4,v5,v6],.pointer (some ⟨B,0,none⟩)] w (Ans w (changeL l p) (changeE l p)):=by
 have eg : ∀ args w,(callFunc 56 args).run Tryz.prog w = .ok (.enter 56 args) w:=enters_of Tryz.func56 (by kernel_rfl) rfl
 have HB : Aside0 (Below w.heap.size w (w.alloc (.cells #[.int .i64 p.f0,.string p.f1,.string p.f2,.string p.f3,.int .i64 p.f4,v5,v6] 25))):=⟨below_alloc (Below.refl _ _) _⟩
 have HX : Aside0 ((w.alloc (.cells #[.int .i64 p.f0,.string p.f1,.string p.f2,.string p.f3,.int .i64 p.f4,v5,v6] 25)).heap[w.heap.size]? = some (.cells #[.int .i64 p.f0,.string p.f1,.string p.f2,.string p.f3,.int .i64 p.f4,v5,v6] 25 (0,0))):=⟨blk_new _ _⟩
 have h1:=there_at l A c p.f0 p.f1 (.string p.f2) (.string p.f3) (.int .i64 p.f4) v5 v6 _ rfl rfl rfl h5 h6 (Kd.C_below hr HB.out) hl hs hk0 hk1
 obtain ⟨b0,b1,b2,b3,b4,b5,b6⟩:=cells7 HX.out
 have HR:=Aside0.mk hr
 have HS:=Aside0.mk hs
 have HL:=Aside0.mk hl
 have HC:=Aside0.mk hchg
 have HF:=Aside0.mk hF
 obtain ⟨t,ht⟩ : ∃ t,thereV l p.f1 p.f0 = t:=⟨_,rfl⟩
 have HT:=Aside0.mk ht
 rw [ht] at h1
 clear hr hs hl ht hchg hF hk0 hk1
 by_cases h0 : t = 0
 ·subst h0
  obtain ⟨x,hfx,hkx⟩:=there_zero.mp HT.out
  obtain ⟨hx,hlo⟩:=(has_find HS.out p.f1).2 x hfx
  obtain ⟨j,hj⟩ : ∃ j,lowB l p.f1 = j:=⟨_,rfl⟩
  have hE : changeE l p = if (changeV x p).isSome then 0 else 81:=by
   unfold changeE thingAt
   rw [HT.out,if_pos rfl,hfx,Option.getD_some]
  have hLL : ∀ y,changeV x p = some y → changeL l p = l.set j y:=by
   intro y hy
   rw [change_L hfx hy]
   unfold setL
   rw [hj]
  rw [hj] at hx hlo h1
  rw [hE]
  have FX:=Aside0.mk hfx
  have KX:=Aside0.mk hkx
  have LL:=Aside0.mk hLL
  have hj0 : (0 : Int) ≤ (j : Int):=by omega
  have hj1 : (j : Int) < (l.length : Int):=by omega
  clear hfx hkx hE hj hLL
  obtain ⟨r,hrr⟩ : ∃ r,(changeV x p).isSome = r:=⟨_,rfl⟩
  rw [hrr]
  have RR:=Aside0.mk hrr
  obtain ⟨err,herr⟩ : ∃ err : Int,(if r = true then (0 : Int) else 81) = err:=⟨_,rfl⟩
  rw [herr]
  have ER:=Aside0.mk herr
  clear hrr herr
  go_enter Tryz.func100,Tryz.ntmps100
  go_upto_region 4 with (go_at_call 95; refine h1.mono ?_; rintro e w1 ⟨⟨i,rfl,hi⟩,hb⟩)
  obtain rfl : i = j:=hi trivial
  have hB1:=Aside0.mk (HB.out.trans (hb.mono HB.out.size))
  have hX1:=Aside0.mk (blk_below HX.out hb)
  have hcl:=clone_at w1 l A c w1 (Below.refl _ _) HL.out (rows_rw (Kd.C_below HR.out hB1.out) (Below.refl _ _))
  clear b0 b1 b2 b3 b4 b5 b6 HB HX h1 hb hi
  go_upto_region 5 with (go_at_call 73; refine hcl.mono ?_; rintro e w2 ⟨v,rfl,hrow,hb2,hown⟩)
  obtain ⟨inner,⟨hlen,ho⟩,hrp⟩:=hrow
  rcases ho with ⟨rfl,hn0⟩ | ⟨g,cap,cur,rfl,hg,hh,hnc,hcm,hcs,ht⟩
  ·omega
  ·obtain ⟨X,d,hcs4,rx⟩:=hrp.2 i x (by rw [List.getElem?_eq_getElem hlo,← getD_get hlo,hx])
   have hent : Ent cur (i * 4) x X d:=by
    have key : ∀ k u,[Value.string x.f0,Value.int .i64 x.f1,Value.slice X x.f2.length d,Value.string x.f3][k]? = some u → cur[i * 4 + k]? = some u:=by
     intro k u hu
     rw [← hcs4,List.getElem?_take] at hu
     split at hu
     ·rw [List.getElem?_drop,← ht,List.getElem?_take] at hu
      split at hu
      ·simpa using hu
      ·cases hu
     ·cases hu
    exact ⟨key 0 _ rfl,key 1 _ rfl,key 2 _ rfl,key 3 _ rfl⟩
   have hBu:=hB1.out
   have hcall:=fun W (hb3 : Below w2.heap.size w2 W) => HC.out w1 x X d g (i * 4) cur W FX.out KX.out hB1.out (hb2.trans (hb3.mono hb2.size)) hg (blk_below hh hb3) hent rx
   obtain ⟨d0,d1,d2,d3,d4,d5,d6⟩:=cells7 hX1.out
   have dF:=(blk_cell (blk_below HF.out hB1.out) 0).trans (show _ = some (Value.func (.func 56) #[] #[]) from rfl)
   have DS:=Aside0.mk (And.intro dF (And.intro d0 (And.intro d1 (And.intro d2 (And.intro d3 (And.intro d4 (And.intro d5 d6)))))))
   clear d0 d1 d2 d3 d4 d5 d6 dF
   have hX2:=blk_below hX1.out hb2
   have hF2:=blk_below (blk_below HF.out hB1.out) hb2
   have cF:=(blk_cell hF2 0).trans (show _ = some (Value.func (.func 56) #[] #[]) from rfl)
   obtain ⟨b0,b1,b2,b3,b4,b5,b6⟩:=cells7 hX2
   have HB2:=Aside0.mk hb2
   have HG:=Aside0.mk hg
   have HCM:=Aside0.mk hcm
   have HCS:=Aside0.mk hcs
   have HTT:=Aside0.mk ht
   have HRP:=Aside0.mk hrp
   have HNC:=Aside0.mk hnc
   clear hcl hb2 hg hcm hcs ht hrp hnc hlen hown hX2 hF2 hh hent hcs4 rx hBu
   go_wp2
   go_region_held3 (fun U => U.cell? ⟨B,0,none⟩ = some (.func (.func 56) #[] #[]) ∧ U.cell? ⟨w.heap.size,0,none⟩ = some (.int .i64 p.f0) ∧ U.cell? ⟨w.heap.size,1,none⟩ = some (.string p.f1) ∧ U.cell? ⟨w.heap.size,2,none⟩ = some (.string p.f2) ∧ U.cell? ⟨w.heap.size,3,none⟩ = some (.string p.f3) ∧ U.cell? ⟨w.heap.size,4,none⟩ = some (.int .i64 p.f4) ∧ U.cell? ⟨w.heap.size,5,none⟩ = some v5 ∧ U.cell? ⟨w.heap.size,6,none⟩ = some v6) (first | exact ⟨cF,b0,b1,b2,b3,b4,b5,b6⟩ | exact ⟨pw_cell_below hb4 DS.out.1,pw_cell_below hb4 DS.out.2.1,pw_cell_below hb4 DS.out.2.2.1,pw_cell_below hb4 DS.out.2.2.2.1,pw_cell_below hb4 DS.out.2.2.2.2.1,pw_cell_below hb4 DS.out.2.2.2.2.2.1,pw_cell_below hb4 DS.out.2.2.2.2.2.2.1,pw_cell_below hb4 DS.out.2.2.2.2.2.2.2⟩) ((go_at_fn 56; refine (hcall _ (below_drew (Below.refl _ _))).mono ?_; rintro e w3 ⟨he,hb4,cur',hh4,hsb,hy4⟩; rw [RR.out] at he; subst he))
   all_goals
    have hB4:=Aside0.mk (hB1.out.trans (hb4.mono hB1.out.size))
    have HY:=Aside0.mk hy4
    have HH4:=Aside0.mk hh4
    have HSB:=Aside0.mk hsb
    have HB4:=Aside0.mk hb4
    clear hy4 hh4 hsb hb4 cF b0 b1 b2 b3 b4 b5 b6 hcall
    cases r with
    | false =>
     go_wp2
     go_ret2
     exact ⟨hB4.out,by have he : err = 81:=(by rw [← ER.out]; rfl); rw [he]; rfl⟩
    | true =>
     go_wp2
     go_ret2
     refine ⟨hB4.out,?_⟩
     rw [if_pos (show err = 0 by rw [← ER.out]; rfl)]
     obtain ⟨y,hy⟩:=Option.isSome_iff_exists.1 RR.out
     obtain ⟨Y,d',he,ry⟩:=HY.out y hy
     rw [LL.out y hy]
     have hlen : (l.set i y).length = l.length:=List.length_set
     have hrp2:=reps_set HRP.out HTT.out (by rw [HCS.out]; have:=HNC.out; omega) HB4.out HSB.out hlo he ry
     have hown2 : OwnRow (Rw w3) 41 4 w3 w1.heap.size (.slice (some ⟨g,0,none⟩) l.length cap) (l.set i y) :=
      ⟨_,⟨hrp2.1,Or.inr ⟨g,cap,cur',by rw [hlen],HG.out,HH4.out,by rw [hlen]; exact HNC.out,HCM.out,by rw [HSB.out.1,HCS.out],by rw [hlen]⟩⟩,hrp2⟩
     obtain ⟨A',c',he',hc',hrr⟩:=OwnRow.reads hown2
     injection he' with e1 e2 e3
     subst e1
     subst e3
     refine ⟨_,cap,by rw [hlen]; rfl,hc',?_⟩
     refine ReadsRow.imp_ hrr (Below.refl _ _) ?_
     rintro pp cl ⟨X',x',rfl,rx'⟩
     exact k41_mk w3 pp rx'.l rx'.g
 ·have hE : changeE l p = t:=by unfold changeE; rw [HT.out,if_neg h0]
  rw [hE]
  have hne : (t == 0) = false:=by simp [h0]
  have hne2 : (t != 0) = true:=by simp [h0]
  go_enter Tryz.func100,Tryz.ntmps100
  go_wp2_with (go_at_call 95; refine h1.mono ?_; rintro e w1 ⟨⟨i,rfl,hi⟩,hb⟩)
  go_ret2
  exact ⟨HB.out.trans (hb.mono HB.out.size),by rw [if_neg h0]; rfl⟩
set_option maxHeartbeats 8000000 in
set_option maxRecDepth 1000000 in
theorem changing57_at (l : List S41) (A : Option Addr) (c : Nat) (p : S25) (v5 v6 : Value) (B : Nat) (w : World) (h5 : v5.oneCell' = true) (h6 : v6.oneCell' = true)
  (hr : Kd.C k41 w A l.length l) (hl : l.length ≤ 1000000000) (hs : Srt l) (hk0 : 0 ≤ p.f0) (hk1 : p.f0 ≤ 10) (hF : w.heap[B]? = some (.cells #[.func (.func 57) #[] #[]] 76 (0,0)))
  (hchg : ∀ (u : World) (x : S41) (X : Option Addr) (d g o : Nat) (cur : Array Value) (W : World),findV l p.f1 = some x → x.f1 = kindV p.f0 → Below w.heap.size w u → Below u.heap.size u W → u.heap.size ≤ g → W.heap[g]? = some (.cells cur 41 (0,0)) → Ent cur o x X d → Re u x X d →
   Calls Tryz.prog 57 #[.pointer (some ⟨g,o,none⟩),.agg #[.int .i64 p.f0,.string p.f1,.string p.f2,.string p.f3,.int .i64 p.f4,v5,v6]] W (Chg u p x g o cur)) :
  Calls Tryz.prog 100 #[.slice A l.length c,.agg #[.int .i64 p.f0,.string p.f1,.string p.f2,.string p.f3,.int .i64 p.f4,v5,v6],.pointer (some ⟨B,0,none⟩)] w (Ans w (changeL l p) (changeE l p)):=by
 have eg : ∀ args w,(callFunc 57 args).run Tryz.prog w = .ok (.enter 57 args) w:=enters_of Tryz.func57 (by kernel_rfl) rfl
 have HB : Aside0 (Below w.heap.size w (w.alloc (.cells #[.int .i64 p.f0,.string p.f1,.string p.f2,.string p.f3,.int .i64 p.f4,v5,v6] 25))):=⟨below_alloc (Below.refl _ _) _⟩
 have HX : Aside0 ((w.alloc (.cells #[.int .i64 p.f0,.string p.f1,.string p.f2,.string p.f3,.int .i64 p.f4,v5,v6] 25)).heap[w.heap.size]? = some (.cells #[.int .i64 p.f0,.string p.f1,.string p.f2,.string p.f3,.int .i64 p.f4,v5,v6] 25 (0,0))):=⟨blk_new _ _⟩
 have h1:=there_at l A c p.f0 p.f1 (.string p.f2) (.string p.f3) (.int .i64 p.f4) v5 v6 _ rfl rfl rfl h5 h6 (Kd.C_below hr HB.out) hl hs hk0 hk1
 obtain ⟨b0,b1,b2,b3,b4,b5,b6⟩:=cells7 HX.out
 have HR:=Aside0.mk hr
 have HS:=Aside0.mk hs
 have HL:=Aside0.mk hl
 have HC:=Aside0.mk hchg
 have HF:=Aside0.mk hF
 obtain ⟨t,ht⟩ : ∃ t,thereV l p.f1 p.f0 = t:=⟨_,rfl⟩
 have HT:=Aside0.mk ht
 rw [ht] at h1
 clear hr hs hl ht hchg hF hk0 hk1
 by_cases h0 : t = 0
 ·subst h0
  obtain ⟨x,hfx,hkx⟩:=there_zero.mp HT.out
  obtain ⟨hx,hlo⟩:=(has_find HS.out p.f1).2 x hfx
  obtain ⟨j,hj⟩ : ∃ j,lowB l p.f1 = j:=⟨_,rfl⟩
  have hE : changeE l p = if (changeV x p).isSome then 0 else 81:=by
   unfold changeE thingAt
   rw [HT.out,if_pos rfl,hfx,Option.getD_some]
  have hLL : ∀ y,changeV x p = some y → changeL l p = l.set j y:=by
   intro y hy
   rw [change_L hfx hy]
   unfold setL
   rw [hj]
  rw [hj] at hx hlo h1
  rw [hE]
  have FX:=Aside0.mk hfx
  have KX:=Aside0.mk hkx
  have LL:=Aside0.mk hLL
  have hj0 : (0 : Int) ≤ (j : Int):=by omega
  have hj1 : (j : Int) < (l.length : Int):=by omega
  clear hfx hkx hE hj hLL
  obtain ⟨r,hrr⟩ : ∃ r,(changeV x p).isSome = r:=⟨_,rfl⟩
  rw [hrr]
  have RR:=Aside0.mk hrr
  obtain ⟨err,herr⟩ : ∃ err : Int,(if r = true then (0 : Int) else 81) = err:=⟨_,rfl⟩
  rw [herr]
  have ER:=Aside0.mk herr
  clear hrr herr
  go_enter Tryz.func100,Tryz.ntmps100
  go_upto_region 4 with (go_at_call 95; refine h1.mono ?_; rintro e w1 ⟨⟨i,rfl,hi⟩,hb⟩)
  obtain rfl : i = j:=hi trivial
  have hB1:=Aside0.mk (HB.out.trans (hb.mono HB.out.size))
  have hX1:=Aside0.mk (blk_below HX.out hb)
  have hcl:=clone_at w1 l A c w1 (Below.refl _ _) HL.out (rows_rw (Kd.C_below HR.out hB1.out) (Below.refl _ _))
  clear b0 b1 b2 b3 b4 b5 b6 HB HX h1 hb hi
  go_upto_region 5 with (go_at_call 73; refine hcl.mono ?_; rintro e w2 ⟨v,rfl,hrow,hb2,hown⟩)
  obtain ⟨inner,⟨hlen,ho⟩,hrp⟩:=hrow
  rcases ho with ⟨rfl,hn0⟩ | ⟨g,cap,cur,rfl,hg,hh,hnc,hcm,hcs,ht⟩
  ·omega
  ·obtain ⟨X,d,hcs4,rx⟩:=hrp.2 i x (by rw [List.getElem?_eq_getElem hlo,← getD_get hlo,hx])
   have hent : Ent cur (i * 4) x X d:=by
    have key : ∀ k u,[Value.string x.f0,Value.int .i64 x.f1,Value.slice X x.f2.length d,Value.string x.f3][k]? = some u → cur[i * 4 + k]? = some u:=by
     intro k u hu
     rw [← hcs4,List.getElem?_take] at hu
     split at hu
     ·rw [List.getElem?_drop,← ht,List.getElem?_take] at hu
      split at hu
      ·simpa using hu
      ·cases hu
     ·cases hu
    exact ⟨key 0 _ rfl,key 1 _ rfl,key 2 _ rfl,key 3 _ rfl⟩
   have hBu:=hB1.out
   have hcall:=fun W (hb3 : Below w2.heap.size w2 W) => HC.out w1 x X d g (i * 4) cur W FX.out KX.out hB1.out (hb2.trans (hb3.mono hb2.size)) hg (blk_below hh hb3) hent rx
   obtain ⟨d0,d1,d2,d3,d4,d5,d6⟩:=cells7 hX1.out
   have dF:=(blk_cell (blk_below HF.out hB1.out) 0).trans (show _ = some (Value.func (.func 57) #[] #[]) from rfl)
   have DS:=Aside0.mk (And.intro dF (And.intro d0 (And.intro d1 (And.intro d2 (And.intro d3 (And.intro d4 (And.intro d5 d6)))))))
   clear d0 d1 d2 d3 d4 d5 d6 dF
   have hX2:=blk_below hX1.out hb2
   have hF2:=blk_below (blk_below HF.out hB1.out) hb2
   have cF:=(blk_cell hF2 0).trans (show _ = some (Value.func (.func 57) #[] #[]) from rfl)
   obtain ⟨b0,b1,b2,b3,b4,b5,b6⟩:=cells7 hX2
   have HB2:=Aside0.mk hb2
   have HG:=Aside0.mk hg
   have HCM:=Aside0.mk hcm
   have HCS:=Aside0.mk hcs
   have HTT:=Aside0.mk ht
   have HRP:=Aside0.mk hrp
   have HNC:=Aside0.mk hnc
   clear hcl hb2 hg hcm hcs ht hrp hnc hlen hown hX2 hF2 hh hent hcs4 rx hBu
   go_wp2
   go_region_held3 (fun U => U.cell? ⟨B,0,none⟩ = some (.func (.func 57) #[] #[]) ∧ U.cell? ⟨w.heap.size,0,none⟩ = some (.int .i64 p.f0) ∧ U.cell? ⟨w.heap.size,1,none⟩ = some (.string p.f1) ∧ U.cell? ⟨w.heap.size,2,none⟩ = some (.string p.f2) ∧ U.cell? ⟨w.heap.size,3,none⟩ = some (.string p.f3) ∧ U.cell? ⟨w.heap.size,4,none⟩ = some (.int .i64 p.f4) ∧ U.cell? ⟨w.heap.size,5,none⟩ = some v5 ∧ U.cell? ⟨w.heap.size,6,none⟩ = some v6) (first | exact ⟨cF,b0,b1,b2,b3,b4,b5,b6⟩ | exact ⟨pw_cell_below hb4 DS.out.1,pw_cell_below hb4 DS.out.2.1,pw_cell_below hb4 DS.out.2.2.1,pw_cell_below hb4 DS.out.2.2.2.1,pw_cell_below hb4 DS.out.2.2.2.2.1,pw_cell_below hb4 DS.out.2.2.2.2.2.1,pw_cell_below hb4 DS.out.2.2.2.2.2.2.1,pw_cell_below hb4 DS.out.2.2.2.2.2.2.2⟩) ((go_at_fn 57; refine (hcall _ (below_drew (Below.refl _ _))).mono ?_; rintro e w3 ⟨he,hb4,cur',hh4,hsb,hy4⟩; rw [RR.out] at he; subst he))
   all_goals
    have hB4:=Aside0.mk (hB1.out.trans (hb4.mono hB1.out.size))
    have HY:=Aside0.mk hy4
    have HH4:=Aside0.mk hh4
    have HSB:=Aside0.mk hsb
    have HB4:=Aside0.mk hb4
    clear hy4 hh4 hsb hb4 cF b0 b1 b2 b3 b4 b5 b6 hcall
    cases r with
    | false =>
     go_wp2
     go_ret2
     exact ⟨hB4.out,by have he : err = 81:=(by rw [← ER.out]; rfl); rw [he]; rfl⟩
    | true =>
     go_wp2
     go_ret2
     refine ⟨hB4.out,?_⟩
     rw [if_pos (show err = 0 by rw [← ER.out]; rfl)]
     obtain ⟨y,hy⟩:=Option.isSome_iff_exists.1 RR.out
     obtain ⟨Y,d',he,ry⟩:=HY.out y hy
     rw [LL.out y hy]
     have hlen : (l.set i y).length = l.length:=List.length_set
     have hrp2:=reps_set HRP.out HTT.out (by rw [HCS.out]; have:=HNC.out; omega) HB4.out HSB.out hlo he ry
     have hown2 : OwnRow (Rw w3) 41 4 w3 w1.heap.size (.slice (some ⟨g,0,none⟩) l.length cap) (l.set i y) :=
      ⟨_,⟨hrp2.1,Or.inr ⟨g,cap,cur',by rw [hlen],HG.out,HH4.out,by rw [hlen]; exact HNC.out,HCM.out,by rw [HSB.out.1,HCS.out],by rw [hlen]⟩⟩,hrp2⟩
     obtain ⟨A',c',he',hc',hrr⟩:=OwnRow.reads hown2
     injection he' with e1 e2 e3
     subst e1
     subst e3
     refine ⟨_,cap,by rw [hlen]; rfl,hc',?_⟩
     refine ReadsRow.imp_ hrr (Below.refl _ _) ?_
     rintro pp cl ⟨X',x',rfl,rx'⟩
     exact k41_mk w3 pp rx'.l rx'.g
 ·have hE : changeE l p = t:=by unfold changeE; rw [HT.out,if_neg h0]
  rw [hE]
  have hne : (t == 0) = false:=by simp [h0]
  have hne2 : (t != 0) = true:=by simp [h0]
  go_enter Tryz.func100,Tryz.ntmps100
  go_wp2_with (go_at_call 95; refine h1.mono ?_; rintro e w1 ⟨⟨i,rfl,hi⟩,hb⟩)
  go_ret2
  exact ⟨HB.out.trans (hb.mono HB.out.size),by rw [if_neg h0]; rfl⟩
theorem row_own_lt {w W : World} {v : Value} {l : List S41} (h : Row w W v l) : ∀ g,v.ownBlock = some g → g < W.heap.size:=by
 intro g hg
 obtain ⟨inner,⟨_,ho⟩,_⟩:=h
 rcases ho with ⟨rfl,_⟩ | ⟨g',cap,cur,rfl,_,hh,_⟩
 ·cases hg
 ·have : g' = g:=Option.some.inj hg
  rw [← this]; exact blk_lt hh
theorem newE_rw (w : World) (p : S25) (kk : Int) (h : kindV p.f0 = kk) : Rw w (newE p) [.string p.f1,.int .i64 kk,.slice none 0 0,.string ⟨#[]⟩] :=
 ⟨none,0,by rw [← h]; rfl,Nat.le_refl _,⟨rfl,(show (0 : Nat) ≤ 9223372036854775807 by decide),fun h => absurd h (show ¬ (0 : Nat) < 0 by decide)⟩⟩
set_option maxHeartbeats 8000000 in
set_option maxRecDepth 1000000 in
theorem add_at (l : List S41) (A : Option Addr) (c : Nat) (p : S25) (v5 v6 : Value) (w : World) (h5 : v5.oneCell' = true) (h6 : v6.oneCell' = true)
  (hr : Kd.C k41 w A l.length l) (hl : l.length ≤ 1000000000) (hs : Srt l) (hk0 : 0 ≤ p.f0) (hk1 : p.f0 ≤ 10) (hp : p.f1.size ≤ 1000000000000) :
  Calls Tryz.prog 52 #[.slice A l.length c,.agg #[.int .i64 p.f0,.string p.f1,.string p.f2,.string p.f3,.int .i64 p.f4,v5,v6]] w (Ans w (insL l (newE p)) (addE l p)):=by
 have HB : Aside0 (Below w.heap.size w (w.alloc (.cells #[.int .i64 p.f0,.string p.f1,.string p.f2,.string p.f3,.int .i64 p.f4,v5,v6] 25))):=⟨below_alloc (Below.refl _ _) _⟩
 have HX : Aside0 ((w.alloc (.cells #[.int .i64 p.f0,.string p.f1,.string p.f2,.string p.f3,.int .i64 p.f4,v5,v6] 25)).heap[w.heap.size]? = some (.cells #[.int .i64 p.f0,.string p.f1,.string p.f2,.string p.f3,.int .i64 p.f4,v5,v6] 25 (0,0))):=⟨blk_new _ _⟩
 have h1:=room_at l A c p.f1 _ (Kd.C_below hr HB.out) hl hs hp
 obtain ⟨b0,b1,b2,b3,b4,b5,b6⟩:=cells7 HX.out
 have HR:=Aside0.mk hr
 have HS:=Aside0.mk hs
 have HL:=Aside0.mk hl
 obtain ⟨t,ht⟩ : ∃ t,roomV l p.f1 = t:=⟨_,rfl⟩
 have HT:=Aside0.mk ht
 have hE : addE l p = if t = 0 then (if l.length = 1024 then 2 else 0) else t:=by unfold addE; rw [ht]
 rw [ht] at h1
 rw [hE]
 have hki:=kind_row p.f0 hk0 hk1
 have HKI:=Aside0.mk hki
 obtain ⟨err,herr⟩ : ∃ err : Int,(if t = 0 then (if l.length = 1024 then 2 else 0) else t) = err:=⟨_,rfl⟩
 rw [herr]
 have ER:=Aside0.mk herr
 clear hr hs hl ht hE herr hk0 hk1 hki
 by_cases h0 : t = 0
 ·subst h0
  by_cases hm : l.length = 1024
  ·have hmb : ((l.length : Int) == 1024) = true:=by rw [beq_iff_eq]; omega
   have HM:=Aside0.mk hm
   clear hm
   go_enter Tryz.func52,Tryz.ntmps52
   go_wp2_with (go_at_call 91; refine h1.mono ?_; rintro e w1 ⟨rfl,hb⟩)
   go_ret2
   exact ⟨HB.out.trans (hb.mono HB.out.size),by have he : err = 2:=(by rw [← ER.out]; simp [HM.out]); rw [he]; rfl⟩
  ·have hmb : ((l.length : Int) == 1024) = false:=by rw [beq_eq_false_iff_ne]; omega
   have HM:=Aside0.mk hm
   clear hm
   go_enter Tryz.func52,Tryz.ntmps52
   go_upto_region 6 with (go_at_call 91; refine h1.mono ?_; rintro e w1 ⟨rfl,hb⟩)
   have hB1:=Aside0.mk (HB.out.trans (hb.mono HB.out.size))
   have hX1:=Aside0.mk (blk_below HX.out hb)
   have h2:=where_at l A c p.f1 w1 (Kd.C_below HR.out hB1.out) HL.out HS.out
   obtain ⟨c0,c1,c2,c3,c4,c5,c6⟩:=cells7 hX1.out
   clear b0 b1 b2 b3 b4 b5 b6 HB HX h1 hb
   go_upto_region 7 with (go_at_call 92; refine h2.mono ?_; rintro e w2 ⟨rfl,hb⟩)
   have hB2:=Aside0.mk (hB1.out.trans (hb.mono hB1.out.size))
   have hX2:=Aside0.mk (blk_below hX1.out hb)
   obtain ⟨d0,d1,d2,d3,d4,d5,d6⟩:=cells7 hX2.out
   clear c0 c1 c2 c3 c4 c5 c6 hX1 h2 hb
   have hcl:=clone_at w2 l A c w2.drew (below_drew (Below.refl _ _)) HL.out (rows_rw (Kd.C_below HR.out hB2.out) (below_drew (Below.refl _ _)))
   have hki:=HKI.out
   have hC:=kinds_calls
   obtain ⟨j,hj⟩ : ∃ j,lowB l p.f1 = j:=⟨_,rfl⟩
   have hjl : j ≤ l.length:=by rw [← hj]; exact lowB_le _ _
   have HJ:=Aside0.mk hj
   rw [hj]
   obtain ⟨kk,hkk⟩ : ∃ kk,kindV p.f0 = kk:=⟨_,rfl⟩
   rw [hkk] at hki
   have KK:=Aside0.mk hkk
   clear hj hkk
   go_region_held3 (fun U => U.cell? ⟨w.heap.size,0,none⟩ = some (.int .i64 p.f0) ∧ U.cell? ⟨w.heap.size,1,none⟩ = some (.string p.f1)) (first | exact ⟨d0,d1⟩ | exact ⟨pw_cell_below hb3 d0,pw_cell_below hb3 d1⟩ | exact ⟨pw_cell_below hb4 (pw_cell_below hb3 d0),pw_cell_below hb4 (pw_cell_below hb3 d1)⟩ | exact ⟨Lib.cell?_alloc_some _ (pw_cell_below hb4 (pw_cell_below hb3 d0)),Lib.cell?_alloc_some _ (pw_cell_below hb4 (pw_cell_below hb3 d1))⟩ | exact ⟨pw_cell_below hb5 d0,pw_cell_below hb5 d1⟩) (first
    | ((go_at_call 73; refine hcl.mono ?_; rintro e w3 ⟨v,rfl,hrow,hb3,hown⟩))
    | ((go_at_call 94; refine (hC _).mono ?_; rintro e w4 ⟨rfl,hb4⟩))
    | ((go_at_call 93; refine (insert_at w2 l v j (newE p) _ w4.heap.size _ ((hrow.below hb4).below (below_alloc (Below.refl _ _) _)) ((hb3.trans (hb4.mono hb3.size)).trans (below_alloc (Below.refl w4.heap.size w4) _ |>.mono (Nat.le_trans hb3.size hb4.size))) hjl HL.out (blk_new _ _) (newE_rw w2 p kk KK.out) (fun h => by have h1:=row_own_lt hrow _ h; have h2:=hb4.size; omega)).mono ?_; rintro e w5 ⟨A5,c5,rfl,hc5,hrr,hb5⟩)))
   all_goals
    have hB5:=Aside0.mk (hB2.out.trans (hb5.mono hB2.out.size))
    have HR5:=Aside0.mk hrr
    have HB5:=Aside0.mk hb5
    clear hrr hrow hb3 hb4 hb5 hown hcl hki hC d0 d1 d2 d3 d4 d5 d6
    go_wp2
    go_ret2
    refine ⟨hB5.out,?_⟩
    rw [if_pos (show err = 0 by rw [← ER.out]; simp [HM.out])]
    have hins : insL l (newE p) = l.take j ++ newE p :: l.drop j:=by
     unfold insL
     rw [show lowB l (newE p).f0 = j from HJ.out]
    refine ⟨A5,c5,by rw [ins_len]; rfl,by rw [ins_len]; exact hc5,?_⟩
    rw [ins_len,hins]
    refine ReadsRow.imp_ HR5.out (Below.refl _ _) ?_
    rintro pp cl ⟨X',x',rfl,rx'⟩
    exact k41_mk _ pp rx'.l (Kd.C_below rx'.g HB5.out)
 ·have hne : (t == 0) = false:=by simp [h0]
  have hne2 : (t != 0) = true:=by simp [h0]
  have h00:=Aside0.mk h0
  go_enter Tryz.func52,Tryz.ntmps52
  go_wp2_with (go_at_call 91; refine h1.mono ?_; rintro e w1 ⟨rfl,hb⟩)
  go_ret2
  exact ⟨HB.out.trans (hb.mono HB.out.size),by have he : err = t:=(by rw [← ER.out]; rw [if_neg h00.out]); rw [he,if_neg h00.out]; rfl⟩
end Go.Proofs.YthhohbidjhcjeaaGreatDoor.H
namespace Go.Proofs
open Go.Shelf
def Tryz.sortE_ren : Go.Shelf.Ren:=⟨fun | 6 => 106 | 15 => 142 | 14 => 141 | 28 => 171 | 29 => 172 | 20 => 163 | 21 => 164 | 22 => 165 | 23 => 166 | 24 => 167 | 25 => 168 | 26 => 169 | 27 => 170 | 46 => 184 | 47 => 185 | 48 => 186 | 49 => 187 | 50 => 188 | 57 => 200 | n => n,fun | 22 => 22 | 24 => 41 | 25 => 122 | 3 => 3 | 39 => 158 | 0 => 0 | 53 => 185 | 55 => 187 | 4 => 4 | 46 => 179 | 45 => 178 | 50 => 110 | 5 => 5 | 9 => 9 | 66 => 201 | 70 => 205 | 76 => 210 | 77 => 211 | n => n,fun | n => n⟩
theorem Tryz.sortE : Go.Proofs.SlLaysF0.n6 Tryz.prog Tryz.sortE_ren:={
 mixed:=by kernel_rfl
 f6:=⟨Tryz.f106.name,by decide,Tryz.func106.trans (congrArg some (by kernel_rfl))⟩
 f14:=⟨Tryz.f141.name,by decide,Tryz.func141.trans (congrArg some (by kernel_rfl))⟩
 f15:=Tryz.func142.trans (congrArg some (by kernel_rfl))
 f20:=⟨Tryz.f163.name,by decide,Tryz.func163.trans (congrArg some (by kernel_rfl))⟩
 f21:=⟨Tryz.f164.name,by decide,Tryz.func164.trans (congrArg some (by kernel_rfl))⟩
 f22:=⟨Tryz.f165.name,by decide,Tryz.func165.trans (congrArg some (by kernel_rfl))⟩
 f23:=⟨Tryz.f166.name,by decide,Tryz.func166.trans (congrArg some (by kernel_rfl))⟩
 f24:=⟨Tryz.f167.name,by decide,Tryz.func167.trans (congrArg some (by kernel_rfl))⟩
 f25:=⟨Tryz.f168.name,by decide,Tryz.func168.trans (congrArg some (by kernel_rfl))⟩
 f26:=⟨Tryz.f169.name,by decide,Tryz.func169.trans (congrArg some (by kernel_rfl))⟩
 f27:=⟨Tryz.f170.name,by decide,Tryz.func170.trans (congrArg some (by kernel_rfl))⟩
 f28:=Tryz.func171.trans (congrArg some (by kernel_rfl))
 f29:=Tryz.func172.trans (congrArg some (by kernel_rfl))
 f46:=⟨Tryz.f184.name,by decide,Tryz.func184.trans (congrArg some (by kernel_rfl))⟩
 f47:=Tryz.func185.trans (congrArg some (by kernel_rfl))
 f48:=Tryz.func186.trans (congrArg some (by kernel_rfl))
 f49:=⟨Tryz.f187.name,by decide,Tryz.func187.trans (congrArg some (by kernel_rfl))⟩
 f50:=⟨Tryz.f188.name,by decide,Tryz.func188.trans (congrArg some (by kernel_rfl))⟩
 f57:=⟨Tryz.f200.name,by decide,Tryz.func200.trans (congrArg some (by kernel_rfl))⟩
 t0:=Tryz.underlying0
 a0:=Tryz.isAgg0
 z0:=Tryz.sizeOf0
 v0:=Tryz.zeroValue0
 t3:=Tryz.underlying3
 a3:=Tryz.isAgg3
 z3:=Tryz.sizeOf3
 v3:=Tryz.zeroValue3
 t4:=Tryz.underlying4
 a4:=Tryz.isAgg4
 z4:=Tryz.sizeOf4
 v4:=Tryz.zeroValue4
 t5:=Tryz.underlying5
 a5:=Tryz.isAgg5
 z5:=Tryz.sizeOf5
 v5:=Tryz.zeroValue5
 t9:=Tryz.underlying9
 a9:=Tryz.isAgg9
 z9:=Tryz.sizeOf9
 v9:=Tryz.zeroValue9
 t22:=Tryz.underlying22
 a22:=Tryz.isAgg22
 z22:=Tryz.sizeOf22
 v22:=Tryz.zeroValue22
 t25:=Tryz.underlying122
 a25:=Tryz.isAgg122
 z25:=Tryz.sizeOf122
 v25:=Tryz.zeroValue122
 t39:=Tryz.underlying158
 a39:=Tryz.isAgg158
 z39:=Tryz.sizeOf158
 v39:=Tryz.zeroValue158
 t45:=Tryz.underlying178
 a45:=Tryz.isAgg178
 z45:=Tryz.sizeOf178
 v45:=Tryz.zeroValue178
 t46:=Tryz.underlying179
 a46:=Tryz.isAgg179
 z46:=Tryz.sizeOf179
 v46:=Tryz.zeroValue179
 t50:=Tryz.underlying110
 a50:=Tryz.isAgg110
 z50:=Tryz.sizeOf110
 v50:=Tryz.zeroValue110
 t53:=Tryz.underlying185
 a53:=Tryz.isAgg185
 z53:=Tryz.sizeOf185
 v53:=Tryz.zeroValue185
 t55:=Tryz.underlying187
 a55:=Tryz.isAgg187
 z55:=Tryz.sizeOf187
 v55:=Tryz.zeroValue187
 t66:=Tryz.underlying201
 a66:=Tryz.isAgg201
 z66:=Tryz.sizeOf201
 v66:=Tryz.zeroValue201
 t70:=Tryz.underlying205
 a70:=Tryz.isAgg205
 z70:=Tryz.sizeOf205
 v70:=Tryz.zeroValue205
 t76:=Tryz.underlying210
 a76:=Tryz.isAgg210
 z76:=Tryz.sizeOf210
 v76:=Tryz.zeroValue210
 t77:=Tryz.underlying211
 a77:=Tryz.isAgg211
 z77:=Tryz.sizeOf211
 v77:=Tryz.zeroValue211 }
end Go.Proofs
namespace Go.Proofs.YthhohbidjhcjeaaGreatDoor.H
open Go.RowKit Go.Shelf Go.Sort Go.Proofs.YthhohbidjhcjeaaGreatDoorW.PrintWords Go.Proofs.YthhohbidjhcjeaaGreatDoorW.PrintLast Go.Proofs.YthhohbidjhcjeaaGreatDoorW.PrintMore
open Go.Proofs.YthhohbidjhcjeaaGreatDoor.Q Go.Proofs.YthhohbidjhcjeaaGreatDoor.Pl
set_option linter.unusedVariables false
set_option linter.unusedSimpArgs false
structure E4 where
 s : S41
 X : Option Addr
 c : Nat
instance : Inhabited E4:=⟨⟨z41,none,0⟩⟩
def encE (e : E4) : List Value:=[.string e.s.f0,.int .i64 e.s.f1,.slice e.X e.s.f2.length e.c,.string e.s.f3]
def cfE (a b : E4) : Int:=cmpP a.s.f0 b.s.f0
theorem ltE (a b : E4) : ltOf cfE a b = ltP a.s.f0 b.s.f0:=by
 unfold ltOf cfE
 rw [Bool.eq_iff_iff,decide_eq_true_eq,cmp_lt]
theorem swoE : SWO (ltOf cfE) where
 irrefl x:=by rw [ltE,ltP_irrefl]
 trans x y z h1 h2:=by rw [ltE] at *; exact ltP_trans h1 h2
 ntrans x y z h1 h2:=by
  rw [ltE] at *
  cases h : ltP x.s.f0 z.s.f0 with
  | false => rfl
  | true =>
   by_cases e : y.s.f0 = x.s.f0
   ·rw [e,h] at h2; cases h2
   ·have:=ltP_total h1 (fun k => e k.symm)
    rw [ltP_trans this h] at h2; cases h2
theorem order_grow (p q : ByteArray) (x1 x2 x3 y1 y2 y3 : Value) (h1 : x1.oneCell' = true) (h2 : x2.oneCell' = true) (h3 : x3.oneCell' = true) (k1 : y1.oneCell' = true) (k2 : y2.oneCell' = true) (k3 : y3.oneCell' = true) (w : World) :
  Calls Tryz.prog 107 #[.agg #[.string p,x1,x2,x3],.agg #[.string q,y1,y2,y3]] w fun e w' => e = .returned (.int .i64 (cmpP p q)) ∧ ∃ n os,w' = grow (w.drewN n) os:=by
 have hC:=fun W => Tryz.strings_Compare p q W
 go_enter Tryz.func107,Tryz.ntmps107
 go_wp2_with (go_at_call 143; refine (hC _).mono ?_; rintro e w' ⟨rfl,rfl⟩)
 go_ret
 first
 | exact ⟨rfl,1,_,by rw [alloc_eq_grow,alloc_eq_grow,grow_grow]; rfl⟩
 | exact ⟨rfl,0,_,by rw [alloc_eq_grow,alloc_eq_grow,grow_grow]; rfl⟩
theorem cmpE (blk off size : Nat) (w : World) : CmpLays Tryz.prog 107 #[] encE 4 cfE blk off size w:=fun m os dk _ x y =>
 order_grow x.s.f0 y.s.f0 _ _ _ _ _ _ rfl rfl rfl rfl rfl rfl _
theorem reps_E {w : World} {l : List S41} {inner : List Value} (h : Reps (Rw w) 4 l inner) : ∀ m,m ≤ l.length → ∃ d : List E4,d.length = m ∧ ∀ j e,d[j]? = some e → l[j]? = some e.s ∧ Re w e.s e.X e.c ∧ (inner.drop (j * 4)).take 4 = encE e
 | 0,_ => ⟨[],rfl,fun j e he => by simp at he⟩
 | m + 1,hm => by
  obtain ⟨d,hd,hall⟩:=reps_E h m (by omega)
  obtain ⟨X,c,e,rx⟩:=h.2 m _ (List.getElem?_eq_getElem (show m < l.length by omega))
  refine ⟨d ++ [⟨l[m],X,c⟩],by rw [List.length_append,hd]; rfl,fun j x hx => ?_⟩
  rcases Nat.lt_or_ge j d.length with hj | hj
  ·rw [List.getElem?_append_left hj] at hx
   exact hall j x hx
  ·have hj' : j = m:=by
    have:=(List.getElem?_eq_some_iff.1 hx).1
    rw [List.length_append,List.length_singleton] at this
    omega
   subst hj'
   rw [List.getElem?_append_right hj,hd,Nat.sub_self] at hx
   have:=Option.some.inj hx
   subst this
   exact ⟨List.getElem?_eq_getElem (show j < l.length by omega),rx,e⟩
theorem below_grow' {B : Nat} {w W : World} (h : Below B w W) (hB : B ≤ W.heap.size) (os : Array Obj) : Below B w (grow W os):=h.trans ⟨rfl,rfl,rfl,by rw [size_grow]; omega,fun k hk => heap_grow_old W os (by omega)⟩
set_option maxHeartbeats 4000000 in
theorem sort_at (w : World) (l : List S41) (g cap : Nat) (W : World) (hrow : Row w W (.slice (some ⟨g,0,none⟩) l.length cap) l) (hB : Below w.heap.size w W) (hl : l.length ≤ 1000000000) (hd : Dis l) :
  Calls Tryz.prog 106 #[.slice (some ⟨g,0,none⟩) l.length cap,.func (.func 107) #[] #[]] W fun e W' => e = .returned (.tuple #[]) ∧ Below w.heap.size w W' ∧ ReadsRow (Rw w) 4 W' (some ⟨g,0,none⟩) l.length (sortV l):=by
 have eg : ∀ args w,(callFunc 107 args).run Tryz.prog w = .ok (.enter 107 args) w:=enters_of Tryz.func107 (by kernel_rfl) rfl
 obtain ⟨inner,⟨hlen,ho⟩,hr⟩:=hrow
 rcases ho with ⟨he,_⟩ | ⟨g',cap',cur,he,hg,hh,hnc,hcm,hcs,ht⟩
 ·cases he
 injection he with e1 e2 e3
 injection e1 with e1
 injection e1 with e1
 subst e1
 obtain ⟨d,hdl,hall⟩:=reps_E hr l.length (Nat.le_refl _)
 have hds : d.toArray.size = l.length:=by simp [hdl]
 have hmap : d.map (·.s) = l:=by
  apply List.ext_getElem?
  intro j
  rw [List.getElem?_map]
  rcases Nat.lt_or_ge j d.length with hj | hj
  ·rw [List.getElem?_eq_getElem hj]
   exact ((hall j _ (List.getElem?_eq_getElem hj)).1).symm
  ·rw [List.getElem?_eq_none hj,List.getElem?_eq_none (by omega)]
   rfl
 have hH : HoldsK encE 4 W g 0 d.toArray:=by
  intro t htt
  rw [size_flatK,hds] at htt
  have hq : t / 4 < d.length:=by omega
  obtain ⟨h1,h2,h3⟩:=hall (t / 4) _ (List.getElem?_eq_getElem hq)
  refine ⟨?_,blk_frozen hh _⟩
  rw [blk_cell hh,Nat.zero_add,get_flatK _ _ _ _ (by rw [hds]; exact htt)]
  have hget : d.toArray[t / 4]! = d[t / 4]:=by
   rw [getElem!_pos d.toArray (t / 4) (by rw [hds]; omega)]
   simp
  rw [hget,← h3]
  have ht' : cur.toList[t]? = inner[t]?:=by
   rw [← ht,List.getElem?_take,if_pos htt]
  have hin : t < inner.length:=by rw [hlen]; exact htt
  have e4 : ((inner.drop (t / 4 * 4)).take 4)[t % 4]! = inner[t]:=by
   rw [getElem!_pos _ _ (by rw [List.length_take,List.length_drop]; omega),List.getElem_take,List.getElem_drop]
   congr 1
   omega
  show cur[t]? = some (id _)
  rw [id,e4,← Array.getElem?_toList,ht',List.getElem?_eq_getElem hin]
 have H:=AnyQ.slices_SortFunc Tryz.sortE 4 Tryz.isAgg41 Tryz.sizeOf41 encE (fun _ => rfl) (fun e v hv => by
   simp only [encE,List.mem_cons,List.not_mem_nil,or_false] at hv
   rcases hv with rfl | rfl | rfl | rfl <;> rfl) cfE swoE 107 #[] g 0 cap d.toArray W eg (cmpE g 0 d.toArray.size W) hH (blk_lt hh) (by rw [hds]; omega)
 rw [hds] at H
 refine H.mono ?_
 rintro e W' ⟨rfl,d',n,os,hp,hsd,rfl⟩
 obtain ⟨hp1,_,hp2⟩:=hp
 have hsz' : d'.size = l.length:=by rw [hp1,hds]
 have hperm : d'.toList.Perm d:=by
  have a1 : (d'.extract 0 l.length).toList = d'.toList:=by rw [← hsz']; simp
  have a2 : (d.toArray.extract 0 l.length).toList = d:=by rw [← hds]; simp
  rw [a1,a2] at hp2
  exact hp2
 have hb : Below w.heap.size w (sortWorldK encE 4 W g 0 n d' os):=by
  unfold sortWorldK putRowK
  have h1:=Go.Lib.below_putRow (enc:=(id : Value → Value)) (q:=n) (d:=flatK encE 4 d') hB hg
  exact below_grow' h1 h1.size os
 refine ⟨rfl,hb,?_⟩
 have hdis : ∀ i j (hi : i < d'.size) (hj : j < d'.size),i < j → d'[i].s.f0 ≠ d'[j].s.f0:=by
  have hdd : (d'.toList.map (·.s)).Pairwise (fun x y => x.f0 ≠ y.f0):=by
   have hpm : (d'.toList.map (·.s)).Perm l:=by rw [← hmap]; exact hperm.map _
   exact (hpm.pairwise_iff (fun h => h.symm)).mpr hd
  intro i j hi hj hij
  have:=List.pairwise_iff_getElem.mp hdd i j (by simpa using hi) (by simpa using hj) hij
  simpa using this
 have hsort : d'.toList.map (·.s) = sortV l:=by
  refine sort_uniq hd ?_ ?_
  ·refine List.pairwise_iff_getElem.mpr fun i j hi hj hij => ?_
   simp only [List.length_map,Array.length_toList] at hi hj
   have h1:=hsd i j (Nat.zero_le _) hij (by rw [← hsz']; exact hj)
   rw [getElem!_pos d' i hi,getElem!_pos d' j hj,ltE] at h1
   have h2:=ltP_total h1 (fun k => hdis i j hi hj hij k.symm)
   simpa using h2
  ·intro z
   rw [← hmap]
   exact (hperm.map _).mem_iff
 rw [← hsort]
 have hHk:=holdsK_sortWorldK encE 4 W g 0 n d.toArray d' os (blk_lt hh) hH (by rw [hp1])
 refine ⟨by rw [List.length_map,Array.length_toList,hsz'],by omega,fun _ => ⟨⟨g,0,none⟩,rfl,fun j p hj => ?_⟩⟩
 rw [List.getElem?_map] at hj
 obtain ⟨x,hx,rfl⟩:=Option.map_eq_some_iff.mp hj
 have hjs : j < d'.size:=by
  have:=(List.getElem?_eq_some_iff.1 hx).1
  simpa using this
 have hxd : x ∈ d:=hperm.mem_iff.mp (List.mem_of_getElem? hx)
 obtain ⟨q,hq,hqe⟩:=List.getElem_of_mem hxd
 have hre:=(hall q x (by rw [List.getElem?_eq_getElem hq,hqe])).2.1
 refine ⟨encE x,rfl,⟨x.X,x.c,rfl,hre⟩,fun i u hu => ?_⟩
 have hi4 : i < 4:=(List.getElem?_eq_some_iff.1 hu).1
 have hc:=(hHk.cell hjs hi4).1
 rw [Addr.add_lit]
 have hx2 : d'[j]! = x:=by
  rw [getElem!_pos d' j hjs]
  have:=(List.getElem?_eq_some_iff.1 hx).2
  simpa using this
 rw [hx2] at hc
 have hu2 : (encE x)[i]! = u:=by
  rw [getElem!_pos _ i hi4]
  exact (List.getElem?_eq_some_iff.1 hu).2
 rw [hu2] at hc
 rw [← Nat.add_assoc]
 exact hc
open Go.RowKit Go.Proofs.YthhohbidjhcjeaaGreatDoor.Q Go.Proofs.YthhohbidjhcjeaaGreatDoor.Pl
theorem doE_add {l : List S41} {p : S25} (h : p.f0 = 1 ∨ p.f0 = 3 ∨ p.f0 = 5) : doE l p = addE l p ∧ doL l p = insL l (newE p):=by
 unfold doE doL
 rw [if_neg (by omega),if_neg (by omega),if_pos h,if_neg (by omega),if_neg (by omega),if_pos h]
 exact ⟨rfl,rfl⟩
theorem doE_remove {l : List S41} {p : S25} (h : p.f0 = 2 ∨ p.f0 = 4 ∨ p.f0 = 6) : doE l p = removeE l p.f1 p.f0 ∧ doL l p = delL l p.f1:=by
 unfold doE doL
 rw [if_neg (by omega),if_neg (by omega),if_neg (by omega),if_neg (by omega),if_neg (by omega),if_neg (by omega)]
 exact ⟨rfl,rfl⟩
theorem doE_change {l : List S41} {p : S25} (h7 : 7 ≤ p.f0) (h9 : p.f0 ≤ 9) : doE l p = changeE l p ∧ doL l p = changeL l p:=by
 unfold doE doL
 rw [if_neg (by omega),if_pos h7,if_neg (by omega),if_pos h7]
 exact ⟨rfl,rfl⟩
theorem doE_move {l : List S41} {p : S25} (h : p.f0 = 10) : doE l p = moveE l p ∧ doL l p = moveL l p:=by
 unfold doE doL
 rw [if_pos h,if_pos h]
 exact ⟨rfl,rfl⟩
theorem kinds4 {p : S25} (h : primB p = true) : (p.f0 = 1 ∨ p.f0 = 3 ∨ p.f0 = 5) ∨ (p.f0 = 2 ∨ p.f0 = 4 ∨ p.f0 = 6) ∨ (7 ≤ p.f0 ∧ p.f0 ≤ 9) ∨ p.f0 = 10:=by
 have:=primB_lo h
 omega
def runV : List S41 → List S25 → Option (List S41)
 | l,[] => some l
 | l,p :: ps => if applyE l p = 0 then runV (doL l p) ps else none
theorem all_run : ∀ (ps : List S25) (l : List S41) (i : Nat),(∃ k,runV l ps = some k ∧ allV l ps i = (k,0,0)) ∨ (∃ e j,runV l ps = none ∧ e ≠ 0 ∧ allV l ps i = ([],e,j))
 | [],l,i => .inl ⟨l,rfl,rfl⟩
 | p :: ps,l,i => by
  show (∃ k,(if applyE l p = 0 then runV (doL l p) ps else none) = some k ∧ (if applyE l p = 0 then allV (doL l p) ps (i + 1) else ([],applyE l p,i)) = (k,0,0)) ∨ _
  by_cases h : applyE l p = 0
  ·rcases all_run ps (doL l p) (i + 1) with ⟨k,h1,h2⟩ | ⟨e,j,h1,h2,h3⟩
   ·exact .inl ⟨k,by rw [if_pos h,h1],by rw [if_pos h,h2]⟩
   ·exact .inr ⟨e,j,by show (if applyE l p = 0 then runV (doL l p) ps else none) = none; rw [if_pos h,h1],h2,by show (if applyE l p = 0 then allV (doL l p) ps (i + 1) else ([],applyE l p,i)) = _; rw [if_pos h,h3]⟩
  ·exact .inr ⟨applyE l p,i,by show (if applyE l p = 0 then runV (doL l p) ps else none) = none; rw [if_neg h],h,by show (if applyE l p = 0 then allV (doL l p) ps (i + 1) else ([],applyE l p,i)) = _; rw [if_neg h]⟩
theorem run_tree : ∀ (ps : List S25) (l k : List S41),Tr l → runV l ps = some k → Tr k
 | [],l,k,ht,h => by rw [← Option.some.inj h]; exact ht
 | p :: ps,l,k,ht,h => by
  have h' : (if applyE l p = 0 then runV (doL l p) ps else none) = some k:=h
  split at h'
  ·rename_i h0
   exact run_tree ps _ k (apply_tree h0) h'
  ·cases h'
open Go.RowKit Go.Shelf Go.Proofs.YthhohbidjhcjeaaGreatDoorW.PrintWords Go.Proofs.YthhohbidjhcjeaaGreatDoorW.PrintLast Go.Proofs.YthhohbidjhcjeaaGreatDoorW.PrintMore
set_option maxHeartbeats 1000000 in
set_option maxRecDepth 100000 in
theorem moved_calls (p fr dst : ByteArray) (w : World) (hs : dst.size + p.size ≤ 140737488355328) : Calls Tryz.prog 105 #[.string p,.string fr,.string dst] w fun e w' => e = .returned (.tuple #[.string (if withinB p fr then mv p fr dst else e0),.bool (withinB p fr)]) ∧ Below w.heap.size w w':=by
 have hW:=path_Within.calls p fr (withinB p fr) w (within_f p fr)
 cases hb : withinB p fr with
 | false =>
  rw [hb] at hW
  rw [if_neg (by simp)]
  unfold e0
  go_enter Tryz.func105,Tryz.ntmps105
  go_wp2_with (go_at_call 98; refine hW.mono ?_; rintro e w' ⟨rfl,m,rfl⟩)
  refine bodyPost_ret ?_ rfl ⟨rfl,pw_below_drewN (Below.refl _ w) m⟩
  simp [results,Tryz.results105]
 | true =>
  have hle:=within_size hb
  rw [hb] at hW
  rw [if_pos rfl]
  unfold mv
  have hlen : (dst.size : Int) + ((p.size - fr.size : Nat) : Int) ≤ 9223372036854775807:=by omega
  have hsl : ∀ W,(Instr.slice 9 (.string p) (some (.int .i64 (fr.size : Int))) none none).run Tryz.prog W = .ok (.string (p.extract fr.size p.size)) W:=fun W => by
   rw [run_slice_string_from_if W 9 p .i64 _ Tryz.underlying9,if_pos ⟨by omega,by omega⟩,Int.toNat_natCast]
  go_enter Tryz.func105,Tryz.ntmps105
  go_wp2_with (go_at_call 98; refine hW.mono ?_; rintro e w' ⟨rfl,m,rfl⟩)
  refine bodyPost_ret ?_ rfl ⟨rfl,pw_below_drewN (Below.refl _ w) m⟩
  simp [results,Tryz.results105]
theorem ent_of {u : World} {L : List S41} {cur : Array Value} {n i : Nat} {x : S41} (hr : Reps (Rw u) 4 L (cur.toList.take (n * 4))) (hx : L[i]? = some x) : ∃ X d,Ent cur (i * 4) x X d ∧ Re u x X d:=by
 obtain ⟨X,d,hcs4,rx⟩:=hr.2 i x hx
 have key : ∀ k u,[Value.string x.f0,Value.int .i64 x.f1,Value.slice X x.f2.length d,Value.string x.f3][k]? = some u → cur[i * 4 + k]? = some u:=by
  intro k u hu
  rw [← hcs4,List.getElem?_take] at hu
  split at hu
  ·rw [List.getElem?_drop,List.getElem?_take] at hu
   split at hu
   ·simpa using hu
   ·cases hu
  ·cases hu
 exact ⟨X,d,⟨key 0 _ rfl,key 1 _ rfl,key 2 _ rfl,key 3 _ rfl⟩,rx⟩
theorem ent_set0 {cur : Array Value} {o : Nat} {x : S41} {X : Option Addr} {c : Nat} (h : Ent cur o x X c) (s : ByteArray) : Ent (cur.setIfInBounds o (.string s)) o { x with f0:=s } X c:=by
 refine ⟨?_,?_,?_,?_⟩
 ·have : o < cur.size:=(Array.getElem?_eq_some_iff.1 h.c0).1
  rw [Array.getElem?_setIfInBounds_self_of_lt this]
 ·rw [Array.getElem?_setIfInBounds_ne (by omega)]; exact h.c1
 ·rw [Array.getElem?_setIfInBounds_ne (by omega)]; exact h.c2
 ·rw [Array.getElem?_setIfInBounds_ne (by omega)]; exact h.c3
def mvL (l : List S41) (fr to_ : ByteArray) (i : Nat) : List S41:=(l.take i).map (mvX fr to_) ++ l.drop i
theorem mvL_len (l : List S41) (fr to_ : ByteArray) (i : Nat) : (mvL l fr to_ i).length = l.length:=by
 unfold mvL
 rw [List.length_append,List.length_map,List.length_take,List.length_drop]
 omega
theorem mvL_get (l : List S41) (fr to_ : ByteArray) (i : Nat) (h : i < l.length) : (mvL l fr to_ i)[i]? = some l[i]:=by
 unfold mvL
 rw [List.getElem?_append_right (by rw [List.length_map,List.length_take]; omega),List.length_map,List.length_take,Nat.min_eq_left (by omega),Nat.sub_self,List.getElem?_drop]
 simp [List.getElem?_eq_getElem h]
theorem mvL_set (l : List S41) (fr to_ : ByteArray) (i : Nat) (h : i < l.length) : mvL l fr to_ (i + 1) = (mvL l fr to_ i).set i (mvX fr to_ l[i]):=by
 unfold mvL
 have hl : ((l.take i).map (mvX fr to_)).length = i:=by rw [List.length_map,List.length_take]; omega
 have h1 : l.drop i = l[i] :: l.drop (i + 1):=List.drop_eq_getElem_cons h
 rw [List.take_succ_eq_append_getElem h,List.map_append,h1,List.append_assoc]
 rw [List.set_append_right _ _ (by omega),hl,Nat.sub_self]
 rfl
theorem mvL_same (l : List S41) (fr to_ : ByteArray) (i : Nat) (h : i < l.length) (hw : withinB (l[i]).f0 fr = false) : mvL l fr to_ (i + 1) = mvL l fr to_ i:=by
 rw [mvL_set l fr to_ i h]
 have e : mvX fr to_ l[i] = l[i]:=by
  unfold mvX
  rw [mvP_out _ hw]
 rw [e]
 apply List.ext_getElem?
 intro j
 rw [List.getElem?_set]
 by_cases hj : i = j
 ·subst hj
  rw [if_pos rfl,if_pos (by rw [mvL_len]; exact h),mvL_get l fr to_ i h]
 ·rw [if_neg hj]
theorem mvL_all (l : List S41) (fr to_ : ByteArray) : mvL l fr to_ l.length = l.map (mvX fr to_):=by
 unfold mvL
 simp
theorem mvL_zero (l : List S41) (fr to_ : ByteArray) : mvL l fr to_ 0 = l:=by simp [mvL]
theorem pieces_sum (c : UInt8) : ∀ l : List UInt8,((pieces c l).map (fun y => y.length + 1)).sum = l.length + 1
 | [] => rfl
 | b :: l => by
  have ih:=pieces_sum c l
  unfold pieces
  split
  ·rw [List.map_cons,List.sum_cons,ih,List.length_cons,List.length_nil]
   omega
  ·cases h : pieces c l with
   | nil => exact absurd h (pieces_ne c l)
   | cons p r =>
    rw [h,List.map_cons,List.sum_cons] at ih
    show ((((b :: p) :: r).map (fun y => y.length + 1)).sum) = _
    rw [List.map_cons,List.sum_cons,List.length_cons,List.length_cons]
    omega
theorem sum_le : ∀ L : List (List UInt8),(∀ y ∈ L,y.length ≤ 16) → (L.map (fun y => y.length + 1)).sum ≤ 17 * L.length
 | [],_ => Nat.le_refl _
 | y :: L,h => by
  have ih:=sum_le L (fun z hz => h z (List.mem_cons_of_mem _ hz))
  have h1:=h y (List.mem_cons_self ..)
  rw [List.map_cons,List.sum_cons,List.length_cons]
  omega
theorem part_size {s : ByteArray} (h : partB s = true) : s.size ≤ 16:=by
 unfold partB at h
 by_cases h0 : s.toList = []
 ·rw [if_pos h0] at h
  cases h
 ·rw [if_neg h0] at h
  by_cases h1 : s.size ≤ 16
  ·exact h1
  ·rw [if_neg h1] at h
   cases h
theorem right_size {s : ByteArray} (h : rightB s = true) : s.size ≤ 136:=by
 unfold rightB at h
 simp only [Bool.and_eq_true,List.all_eq_true,decide_eq_true_eq] at h
 have h1:=sum_le (pieces 47 s.data.toList) (fun y hy => by
  have:=part_size (h.1 y hy)
  have e : (⟨y.toArray⟩ : ByteArray).size = y.length:=by simp [ByteArray.size]
  omega)
 rw [pieces_sum,dlen] at h1
 omega
structure Mv (u : World) (l : List S41) (fr to_ : ByteArray) (g cap i : Nat) (wr : World) : Prop where
 below : Below u.heap.size u wr
 row : ∃ cur,wr.heap[g]? = some (.cells cur 41 (0,0)) ∧ cur.size = cap * 4 ∧ Reps (Rw u) 4 (mvL l fr to_ i) (cur.toList.take (l.length * 4))
 ok : ∀ j (hj : j < l.length),j < i → rightB (mvP (l[j]).f0 fr to_) = true
set_option maxHeartbeats 8000000 in
set_option maxRecDepth 1000000 in
theorem move_at (l : List S41) (A : Option Addr) (c : Nat) (p : S25) (v5 v6 : Value) (w : World) (h5 : v5.oneCell' = true) (h6 : v6.oneCell' = true)
  (hr : Kd.C k41 w A l.length l) (ht : Tr l) (hp : primB p = true) (h10 : p.f0 = 10) :
  Calls Tryz.prog 58 #[.slice A l.length c,.agg #[.int .i64 p.f0,.string p.f1,.string p.f2,.string p.f3,.int .i64 p.f4,v5,v6]] w (Ans w (moveL l p) (moveE l p)):=by
 have hl : l.length ≤ 1000000000:=by have:=ht.n; omega
 have hs:=ht.s
 have hp2 : p.f2.size ≤ 136:=right_size (prim_move hp h10).1
 have hap:=(prim_move hp h10).2
 have HB : Aside0 (Below w.heap.size w (w.alloc (.cells #[.int .i64 p.f0,.string p.f1,.string p.f2,.string p.f3,.int .i64 p.f4,v5,v6] 25))):=⟨below_alloc (Below.refl _ _) _⟩
 have HX : Aside0 ((w.alloc (.cells #[.int .i64 p.f0,.string p.f1,.string p.f2,.string p.f3,.int .i64 p.f4,v5,v6] 25)).heap[w.heap.size]? = some (.cells #[.int .i64 p.f0,.string p.f1,.string p.f2,.string p.f3,.int .i64 p.f4,v5,v6] 25 (0,0))):=⟨blk_new _ _⟩
 have h1:=where_at l A c p.f1 _ (Kd.C_below hr HB.out) hl hs
 have h2:=fun W (hb : Below w.heap.size w W) => room_at l A c p.f2 W (Kd.C_below hr hb) hl hs (by omega)
 obtain ⟨b0,b1,b2,b3,b4,b5,b6⟩:=cells7 HX.out
 have HR:=Aside0.mk hr
 have HS:=Aside0.mk hs
 have HL:=Aside0.mk hl
 have HTR:=Aside0.mk ht
 have HAP:=Aside0.mk hap
 have HP2:=Aside0.mk hp2
 obtain ⟨err,herr⟩ : ∃ err : Int,moveE l p = err:=⟨_,rfl⟩
 rw [herr]
 have ER:=Aside0.mk herr
 clear hr hs hl herr ht hp h10 hap hp2
 cases hf : (findV l p.f1).isSome with
 | false =>
  have HE : Aside0 (err = 72):=⟨by rw [← ER.out]; unfold moveE; rw [hf]; rfl⟩
  rw [hf] at h1
  clear hf h2
  go_enter Tryz.func58,Tryz.ntmps58
  go_wp2_with (go_at_call 92; refine h1.mono ?_; rintro e w1 ⟨rfl,hb⟩)
  go_ret2
  exact ⟨HB.out.trans (hb.mono HB.out.size),by rw [HE.out]; rfl⟩
 | true =>
  obtain ⟨t,hte⟩ : ∃ t,roomV l p.f2 = t:=⟨_,rfl⟩
  rw [hf] at h1
  have HF:=Aside0.mk hf
  have HT:=Aside0.mk hte
  rw [hte] at h2
  clear hf hte
  by_cases h0 : t = 0
  ·subst h0
   have HE : Aside0 (err = if l.all (fun x => rightB (mvP x.f0 p.f1 p.f2)) then 0 else 41):=⟨by rw [← ER.out]; unfold moveE; rw [HF.out,HT.out]; rfl⟩
   go_enter Tryz.func58,Tryz.ntmps58
   go_upto_region 4 with (go_at_call 92; refine h1.mono ?_; rintro e w1 ⟨rfl,hb⟩)
   have hB1:=Aside0.mk (HB.out.trans (hb.mono HB.out.size))
   have hX1:=Aside0.mk (blk_below HX.out hb)
   obtain ⟨c0,c1,c2,c3,c4,c5,c6⟩:=cells7 hX1.out
   clear b0 b1 b2 b3 b4 b5 b6 HB HX h1 hb
   have h2':=h2 w1 hB1.out
   go_upto_region 7 with (go_at_call 91; refine h2'.mono ?_; rintro e u ⟨rfl,hb⟩)
   have hBu:=Aside0.mk (hB1.out.trans (hb.mono hB1.out.size))
   have hXu:=Aside0.mk (blk_below hX1.out hb)
   clear c0 c1 c2 c3 c4 c5 c6 hX1 h2 h2' hb
   have hcl:=clone_at u l A c u (Below.refl _ _) HL.out (rows_rw (Kd.C_below HR.out hBu.out) (Below.refl _ _))
   go_upto_region 8 with (go_at_call 73; refine hcl.mono ?_; rintro e w2 ⟨v,rfl,hrow,hb2,hown⟩)
   clear hcl
   have hlpos : Aside0 (0 < l.length):=⟨by
    obtain ⟨x,hx⟩:=Option.isSome_iff_exists.1 HF.out
    exact List.length_pos_of_mem (find_mem hx).1⟩
   obtain ⟨inner,⟨hlen,ho⟩,hrp⟩:=hrow
   rcases ho with ⟨rfl,hn0⟩ | ⟨g,cap,cur,rfl,hg,hh,hnc,hcm,hcs,ht⟩
   ·have:=hlpos.out; omega
   ·have S0 : Aside0 (Mv u l p.f1 p.f2 g cap 0 w2):=⟨⟨hb2,⟨cur,hh,hcs,by rw [mvL_zero,ht]; exact hrp⟩,fun j hj h => absurd h (Nat.not_lt_zero _)⟩⟩
    have HG:=Aside0.mk hg
    have HCM:=Aside0.mk hcm
    have hnc' : (l.length : Int) ≤ (cap : Int):=by omega
    have HNC:=Aside0.mk hnc
    clear hlen hrp hg hh hnc hcm hcs ht hb2 hown
    go_wp2
    go_loopg [32] l.length (fun kx s32 wr => ∃ i : Nat,s32 = .int .i64 i ∧ i + kx = l.length ∧ Aside0 (Mv u l p.f1 p.f2 g cap i wr))
    case atStart => exact ⟨0,rfl,by omega,S0⟩
    case round =>
     clear S0
     obtain ⟨i,rfl,hi,S1⟩:=hrel
     by_cases hlt : i < l.length
     ·have hii0 : (0 : Int) ≤ (i : Int):=by omega
      have hii1 : (i : Int) < (l.length : Int):=by omega
      have hdb : decide ((i : Int) < (l.length : Int)) = true:=decide_eq_true hii1
      have hwi : IntKind.i64.wrap ((i : Int) + 1) = ((i + 1 : Nat) : Int):=by rw [wrap_small _ (by omega) (by have:=HL.out; omega)]; omega
      obtain ⟨cur2,hh2,hcs2,hrp2⟩:=S1.out.row
      obtain ⟨X,d,hent,rx⟩:=ent_of hrp2 (mvL_get l p.f1 p.f2 i hlt)
      have hxu:=blk_below hXu.out S1.out.below
      obtain ⟨d0,d1,d2,d3,d4,d5,d6⟩:=cells7 hxu
      obtain ⟨e0',e1',e2',e3'⟩:=ent_cells hh2 hent
      obtain ⟨x,hx⟩ : ∃ x,l[i] = x:=⟨_,rfl⟩
      rw [hx] at hent rx e0' e1' e2' e3'
      have hxm : x ∈ l:=by rw [← hx]; exact List.getElem_mem hlt
      have hxr:=((thing_iff x).mp (HTR.out.t x hxm)).1
      have hxs:=right_size hxr
      have hM:=fun W => moved_calls x.f0 p.f1 p.f2 W (by have:=HP2.out; omega)
      have HXX:=Aside0.mk hx
      have HXR:=Aside0.mk hxr
      have HENT:=Aside0.mk hent
      have RX:=Aside0.mk rx
      have HH2:=Aside0.mk hh2
      have HCS2:=Aside0.mk hcs2
      have HRP2:=Aside0.mk hrp2
      have HXS:=Aside0.mk hxs
      have ff:=blk_frozen hh2 (i * 4)
      clear hent rx hh2 hcs2 hrp2 hxu hx hxm hxr hxs d0 d3 d4 d5 d6 e1' e2' e3'
      cases hw : withinB x.f0 p.f1 with
      | false =>
       rw [hw] at hM
       have HW:=Aside0.mk hw
       clear hw
       go_wp2
       go_region_held3 (fun U => U.cell? ⟨g,i * 4,none⟩ = some (.string x.f0) ∧ U.cell? ⟨w.heap.size,1,none⟩ = some (.string p.f1) ∧ U.cell? ⟨w.heap.size,2,none⟩ = some (.string p.f2)) (first | exact ⟨e0',d1,d2⟩ | exact ⟨pw_cell_below hb e0',pw_cell_below hb d1,pw_cell_below hb d2⟩) ((go_at_call 105; refine (hM _).mono ?_; rintro e w3 ⟨rfl,hb⟩))
       all_goals
        have S2 : Aside0 (Mv u l p.f1 p.f2 g cap (i + 1) w3):=⟨⟨(below_drew S1.out.below).trans (hb.mono S1.out.below.size),⟨cur2,blk_below (blk_drew HH2.out) hb,HCS2.out,by rw [mvL_same l p.f1 p.f2 i hlt (by rw [HXX.out]; exact HW.out)]; exact HRP2.out⟩,fun j hj hji => by
         rcases Nat.lt_or_ge j i with h | h
         ·exact S1.out.ok j hj h
         ·have : j = i:=by omega
          subst this
          rw [HXX.out,mvP_out _ HW.out]; exact HXR.out⟩⟩
        clear hb e0' d1 d2 hM
        go_wp2
        go_roundg (l.length - (i + 1))
        case measure => omega
        case rel => exact ⟨i + 1,by first | rfl | (rw [hwi]),by omega,S2⟩
      | true =>
       rw [hw] at hM
       have HW:=Aside0.mk hw
       obtain ⟨tt,htt⟩ : ∃ tt,mv x.f0 p.f1 p.f2 = tt:=⟨_,rfl⟩
       have HTT:=Aside0.mk htt
       rw [if_pos rfl,htt] at hM
       have hts : tt.size ≤ 140737488355328:=by
        rw [← htt]
        unfold mv
        have h1:=HP2.out
        have h2:=HXS.out
        have h3 : (x.f0.extract p.f1.size x.f0.size).size = x.f0.size - p.f1.size:=by simp
        rw [ByteArray.size_append,h3]
        omega
       obtain ⟨rb,hrb⟩ : ∃ rb,rightB tt = rb:=⟨_,rfl⟩
       have hP:=fun W => path_Right.calls tt rb W (by rw [path_f tt hts,hrb])
       have HRB:=Aside0.mk hrb
       clear hw htt hts hrb
       have hstep : Aside0 (∀ w3 w4,Below wr.drew.heap.size wr.drew w3 → Below (w3.setCell ⟨g,i * 4,none⟩ (.string tt)).heap.size (w3.setCell ⟨g,i * 4,none⟩ (.string tt)) w4 → Below u.heap.size u w4 ∧ (rb = true → Mv u l p.f1 p.f2 g cap (i + 1) w4)):=⟨by
        intro w3 w4 hb hb4
        have k1 : Below u.heap.size u w3:=(below_drew S1.out.below).trans (hb.mono S1.out.below.size)
        have k2 : Below u.heap.size u (w3.setCell ⟨g,i * 4,none⟩ (.string tt)):=below_set k1 HG.out
        have k3 : Below u.heap.size u w4:=k2.trans (hb4.mono k2.size)
        refine ⟨k3,fun hrt => ⟨k3,⟨_,blk_below (blk_set (blk_below (blk_drew HH2.out) hb) (i * 4) _) hb4,by rw [Array.size_setIfInBounds]; exact HCS2.out,?_⟩,fun j hj hji => ?_⟩⟩
        ·have h1:=reps_set HRP2.out (by rw [mvL_len]) (by rw [mvL_len,HCS2.out]; have:=HNC.out; omega) (Below.refl _ _) (same_set (i * 4) 0 (by omega) cur2 (.string tt)) (by rw [mvL_len]; exact hlt) (ent_set0 HENT.out tt) ⟨RX.out.l,RX.out.g⟩
         rw [mvL_len] at h1
         rw [mvL_set l p.f1 p.f2 i hlt,HXX.out]
         have h2 : mvX p.f1 p.f2 x = { x with f0:=tt }:=by
          unfold mvX
          rw [mvP_in _ HW.out,HTT.out]
         rw [h2]
         exact h1
        ·rcases Nat.lt_or_ge j i with h | h
         ·exact S1.out.ok j hj h
         ·have : j = i:=by omega
          subst this
          rw [HXX.out,mvP_in _ HW.out,HTT.out,HRB.out,hrt]⟩
       cases rb with
       | false =>
        go_wp2
        go_region_held3 (fun U => U.cell? ⟨g,i * 4,none⟩ = some (.string x.f0) ∧ U.cell? ⟨w.heap.size,1,none⟩ = some (.string p.f1) ∧ U.cell? ⟨w.heap.size,2,none⟩ = some (.string p.f2)) (first | exact ⟨e0',d1,d2⟩ | exact ⟨pw_cell_below hb e0',pw_cell_below hb d1,pw_cell_below hb d2⟩) ((go_at_call 105; refine (hM _).mono ?_; rintro e w3 ⟨rfl,hb⟩))
        all_goals
         have ff3:=blk_frozen (blk_below (blk_drew HH2.out) hb) (i * 4)
         have ee3:=pw_cell_below hb e0'
         have HBB:=Aside0.mk hb
         clear hb d1 d2 hM e0'
         go_wp2_with (go_at_call 66; refine (hP _).mono ?_; rintro e w4 ⟨rfl,hb4⟩)
         go_ret2
         have hbe:=hBu.out.trans ((hstep.out _ _ HBB.out hb4).1.mono hBu.out.size)
         have he41 : err = 41:=by
          rw [HE.out,if_neg]
          intro k
          have h1:=List.all_eq_true.mp k x (by rw [← HXX.out]; exact List.getElem_mem hlt)
          rw [mvP_in _ HW.out,HTT.out,HRB.out] at h1
          cases h1
         exact ⟨hbe,by rw [he41]; rfl⟩
       | true =>
        go_wp2
        go_region_held3 (fun U => U.cell? ⟨g,i * 4,none⟩ = some (.string x.f0) ∧ U.cell? ⟨w.heap.size,1,none⟩ = some (.string p.f1) ∧ U.cell? ⟨w.heap.size,2,none⟩ = some (.string p.f2)) (first | exact ⟨e0',d1,d2⟩ | exact ⟨pw_cell_below hb e0',pw_cell_below hb d1,pw_cell_below hb d2⟩) ((go_at_call 105; refine (hM _).mono ?_; rintro e w3 ⟨rfl,hb⟩))
        all_goals
         have ff3:=blk_frozen (blk_below (blk_drew HH2.out) hb) (i * 4)
         have ee3:=pw_cell_below hb e0'
         have HBB:=Aside0.mk hb
         clear hb d1 d2 hM e0'
         go_wp2_with (go_at_call 66; refine (hP _).mono ?_; rintro e w4 ⟨rfl,hb4⟩)
         have S2:=Aside0.mk ((hstep.out _ _ HBB.out hb4).2 (by first | trivial | rfl))
         go_roundg (l.length - (i + 1))
         case measure => omega
         case rel => exact ⟨i + 1,by first | rfl | (rw [hwi]),by omega,S2⟩
     ·have hie : i = l.length:=by omega
      have hdb : decide ((i : Int) < (l.length : Int)) = false:=decide_eq_false (by omega)
      have hn2:=(room_zero.mp HT.out).1
      have hdis:=move_dis HS.out (fr:=p.f1) (HTR.out.none_within hn2)
      obtain ⟨cur2,hh2,hcs2,hrp2⟩:=S1.out.row
      rw [hie,mvL_all] at hrp2
      have hlm : (l.map (mvX p.f1 p.f2)).length = l.length:=List.length_map ..
      have hrow : Row u wr (.slice (some ⟨g,0,none⟩) (l.map (mvX p.f1 p.f2)).length cap) (l.map (mvX p.f1 p.f2)) :=
       ⟨_,⟨hrp2.1,Or.inr ⟨g,cap,cur2,rfl,HG.out,hh2,by rw [hlm]; exact HNC.out,HCM.out,hcs2,by rw [hlm]⟩⟩,hrp2⟩
      have hS:=sort_at u (l.map (mvX p.f1 p.f2)) g cap wr hrow S1.out.below (by rw [hlm]; exact HL.out) hdis
      rw [hlm] at hS
      have he0 : Aside0 (err = 0):=⟨by
       rw [HE.out,if_pos]
       rw [List.all_eq_true]
       intro x hx
       obtain ⟨j,hj,rfl⟩:=List.getElem_of_mem hx
       exact S1.out.ok j hj (by omega)⟩
      clear hrow hrp2 hh2 hcs2 hn2 hdis hlm
      go_wp2_with (go_at_call 106; refine hS.mono ?_; rintro e w3 ⟨rfl,hb3,hrr⟩)
      go_ret2
      have hB3:=hBu.out.trans (hb3.mono hBu.out.size)
      refine ⟨hB3,?_⟩
      rw [if_pos he0.out]
      have hml : (moveL l p).length = l.length:=by unfold moveL; rw [sort_len,List.length_map]
      refine ⟨some ⟨g,0,none⟩,cap,by rw [hml]; rfl,by rw [hml]; exact HNC.out,?_⟩
      rw [hml]
      refine ReadsRow.imp_ hrr (Below.refl _ _) ?_
      rintro pp cl ⟨X',x',rfl,rx'⟩
      exact k41_mk _ pp rx'.l (Kd.C_below rx'.g hb3)
  ·have HE : Aside0 (err = t):=⟨by rw [← ER.out]; unfold moveE; rw [HF.out,HT.out,if_pos rfl,if_neg h0]⟩
   have hne : (t == 0) = false:=by simp [h0]
   have hne2 : (t != 0) = true:=by simp [h0]
   have H00:=Aside0.mk h0
   go_enter Tryz.func58,Tryz.ntmps58
   go_upto_region 4 with (go_at_call 92; refine h1.mono ?_; rintro e w1 ⟨rfl,hb⟩)
   have hB1:=Aside0.mk (HB.out.trans (hb.mono HB.out.size))
   have hX1:=Aside0.mk (blk_below HX.out hb)
   obtain ⟨c0,c1,c2,c3,c4,c5,c6⟩:=cells7 hX1.out
   clear b0 b1 b2 b3 b4 b5 b6 HB HX h1 hb
   have h2':=h2 w1 hB1.out
   go_wp2_with (go_at_call 91; refine h2'.mono ?_; rintro e u ⟨rfl,hb⟩)
   go_ret2
   exact ⟨hB1.out.trans (hb.mono hB1.out.size),by rw [HE.out,if_neg H00.out]; rfl⟩
end Go.Proofs.YthhohbidjhcjeaaGreatDoor.H
