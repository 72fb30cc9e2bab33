/- The contract of slices.Backward over patches: it hands the patches from the last one on. -/
import Derived.Test.YthhohbidjhcjeaaDoorQx0
import Derived.RangeFuncNested
import Derived.RangeFuncBound
import Derived.RangeFuncCalls
import Derived.RangeFuncLeaves
import Derived.Shelf.Abstract
import Derived.Shelf.RegionOpen
import Derived.WalkKit
import Derived.OwnWalkIn
import Derived.TacticsInMore
import Derived.LoopNIn
import Derived.LoopIn
import Derived.Outline
import Derived.Lib.Hide
namespace Go.Proofs.YthhohbidjhcjeaaDoor.H
open Go.RowKit Go.Shelf Go.Proofs.YthhohbidjhcjeaaDoorW.PrintWords Go.Proofs.YthhohbidjhcjeaaDoorW.PrintLast Go.Proofs.YthhohbidjhcjeaaDoorW.PrintMore
open Go.Proofs.YthhohbidjhcjeaaDoor.Q
attribute [local go_sem] Oper.semAt_some

/-- What a round is handed: a patch and its cells, which lead to what lay in w0. -/
abbrev El (w0 : World) (ok : Nat → Prop) := { p : S24 × List Value // Kd.FK k24 w0 ok p.1 p.2 }
def encB {w0 : World} {ok : Nat → Prop} (x : Nat × El w0 ok) : Array Value := #[.int .i64 (x.1 : Int), .agg x.2.1.2.toArray]
/-- What a round that goes on keeps: what lay in w0, and the box of the row. -/
def KpB (w0 : World) (Bs : Nat) (W W' : World) : Prop := Below w0.heap.size W W' ∧ ∀ v, W.cell? ⟨Bs, 0, none⟩ = some v → W'.cell? ⟨Bs, 0, none⟩ = some v

set_option maxRecDepth 100000 in
set_option maxHeartbeats 2000000 in
theorem back1 (n : Nat) (hn : 1 ≤ n) (l Bs : Nat) (w0 : World) (ok : Nat → Prop) (A : Option Addr) (cap : Nat) (zs : List S24) (hlen : zs.length * 112 ≤ 140737488355328) (hF : Kd.F k24 w0 ok A zs.length zs)
    (J Jx : List (Nat × El w0 ok) → World → Prop)
    (hY : ∀ pre x W, J pre W → pre.length < zs.length → YieldAt Fence.wide (n - 1) Tryd.prog l (encB x) W fun e W' =>
      (e = .returned (.bool true) ∧ J (pre ++ [x]) W' ∧ KpB w0 Bs W W') ∨ (e = .returned (.bool false) ∧ Jx (pre ++ [x]) W'))
    (W : World) (hW : Below w0.heap.size w0 W) (hBs : W.cell? ⟨Bs, 0, none⟩ = some (.slice A zs.length cap)) (h0 : J [] W) :
    CallsIn Fence.wide n Tryd.prog 83 #[.func (.yield l) #[] #[], .pointer (some ⟨Bs, 0, none⟩)] W fun e W' => (∃ v, e = .returned v) ∧
      ((∃ ys : List (Nat × El w0 ok), ys.map (fun y => y.2.1.1) = zs.reverse ∧ J ys W') ∨ (∃ pre : List (Nat × El w0 ok), pre.map (fun y => y.2.1.1) <+: zs.reverse ∧ Jx pre W')) := by
  refine callsIn_of_wp Tryd.func83 rfl trivial ?_ rfl
  simp only [Tryd.ntmps83, List.size_toArray, List.length_cons, List.length_nil, Nat.reduceAdd, Nat.reduceSub, Array.replicate_succ, Array.replicate_zero, List.push_toArray, List.append_toArray, List.nil_append, List.cons_append]
  have hl63 : zs.length ≤ 9223372036854775807 := by omega
  gi_wp2
  gi_loopw [3] (fun i wr => ∃ (m : Nat) (pre : List (Nat × El w0 ok)), m ≤ zs.length ∧ i = .int .i64 ((m : Int) - 1) ∧ J pre wr ∧ pre.length = zs.length - m ∧ pre.map (fun y => y.2.1.1) = zs.reverse.take (zs.length - m) ∧ wr.cell? ⟨Bs, 0, none⟩ = some (.slice A zs.length cap) ∧ Below w0.heap.size w0 wr)
    (fun i _ => (intOf i + 1).toNat)
  case atStart => exact ⟨zs.length, [], Nat.le_refl _, rfl, h0, by simp, by simp, hBs, hW⟩
  case round =>
    obtain ⟨m, pre, hm, rfl, hJ, hpl, hpm, hBr, hWr⟩ := hrel
    cases m with
    | zero =>
      gi_wp2
      go_end0
      exact ⟨⟨_, rfl⟩, .inl ⟨pre, by rw [hpm]; exact List.take_of_length_le (by simp), hJ⟩⟩
    | succ j =>
      obtain ⟨ad, c, hA, hcl, hFK, hcc, _⟩ := Kd.F_get hF z24 (j : Int) (by omega) (by omega)
      simp only [Int.toNat_natCast] at hFK hcc
      have hsz : k24.sz = 7 := rfl
      rw [hsz] at hcc
      have hel : zs.reverse.take (zs.length - j) = zs.reverse.take (zs.length - (j + 1)) ++ [zs.getD j z24] := by
        have e1 : zs.length - j = (zs.length - (j + 1)) + 1 := by omega
        rw [e1, List.take_succ_eq_append_getElem (by simp; omega)]
        congr 1
        rw [List.getElem_reverse]
        rw [List.getD_eq_getElem?_getD, List.getElem?_eq_getElem (by omega), Option.getD_some]
        congr 2
        omega
      obtain ⟨x, hx⟩ : ∃ x, x = zs.getD j z24 := ⟨_, rfl⟩
      rw [← hx] at hel hFK
      have HEL := Lib.hid hel
      clear hx
      have HPM := Lib.hid hpm
      have HPL := Lib.hid hpl
      clear hel hpm hpl hsz
      obtain ⟨fn, tmps, assign, body, hy, hR⟩ := hY pre (j, ⟨(x, c), hFK⟩) wr hJ (by rw [HPL.out]; omega)
      obtain ⟨A5, c5, A6, c6, hce, _⟩ := k24_openF hFK
      dsimp only [encB] at hy
      rw [hce] at hy hcc
      subst hA
      have q0 := pw_cell_below hWr (hcc 0 _ rfl)
      have q1 := pw_cell_below hWr (hcc 1 _ rfl)
      have q2 := pw_cell_below hWr (hcc 2 _ rfl)
      have q3 := pw_cell_below hWr (hcc 3 _ rfl)
      have q4 := pw_cell_below hWr (hcc 4 _ rfl)
      have q5 := pw_cell_below hWr (hcc 5 _ rfl)
      have q6 := pw_cell_below hWr (hcc 6 _ rfl)
      rw [Nat.add_zero] at q0
      rw [add_field _ _ 1 (by omega)] at q1
      rw [add_field _ _ 2 (by omega)] at q2
      rw [add_field _ _ 3 (by omega)] at q3
      rw [add_field _ _ 4 (by omega)] at q4
      rw [add_field _ _ 5 (by omega)] at q5
      rw [add_field _ _ 6 (by omega)] at q6
      clear hcc hcl
      have HCE := Lib.hid hce
      clear hce
      have ej : (((j + 1 : Nat) : Int) - 1) = (j : Int) := by omega
      rw [ej]
      clear ej
      gi_wp2
      refine hR.mono ?_
      rintro e W3 (⟨rfl, hJ3, hk3⟩ | ⟨rfl, hJx3⟩)
      · have hB3 := hk3.2 _ hBr
        gi_wp2
        go_roundw
        case rel => exact ⟨j, pre ++ [(j, ⟨(x, c), hFK⟩)], by omega, rfl, hJ3, by rw [List.length_append, HPL.out]; simp; omega, by rw [List.map_append, HPM.out, HEL.out]; rfl, hB3, hWr.trans hk3.1⟩
        case measure => simp [intOf]
      · gi_wp2
        refine bodyPost_ret (results_none rfl _ _ _) rfl ?_
        exact ⟨⟨_, rfl⟩, .inr ⟨pre ++ [(j, ⟨(x, c), hFK⟩)], by rw [List.map_append, HPM.out]; exact HEL.out ▸ List.take_prefix _ _, hJx3⟩⟩
end Go.Proofs.YthhohbidjhcjeaaDoor.H
