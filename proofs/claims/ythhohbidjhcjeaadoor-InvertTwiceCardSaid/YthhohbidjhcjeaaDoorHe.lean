/- The live question of layer 9's laws answers true. -/
import Derived.Test.YthhohbidjhcjeaaDoorHc
import Derived.Deep.RegionWith
namespace Go.Proofs.YthhohbidjhcjeaaDoor.H
open Go.RowKit Go.Proofs.YthhohbidjhcjeaaDoorW.PrintWords Go.Proofs.YthhohbidjhcjeaaDoorW.PrintLast Go.Proofs.YthhohbidjhcjeaaDoorW.PrintMore
open Go.Proofs.YthhohbidjhcjeaaDoor.Q

theorem z_FK (w : World) (B : Nat → Prop) (x : S24) (h5 : x.f5 = []) (h6 : x.f6 = []) : Kd.FK k24 w B x [.int .i64 x.f0, .string x.f1, .string x.f2, .string x.f3, .int .i64 x.f4, .slice none 0 0, .slice none 0 0] := by
  obtain ⟨x0, x1, x2, x3, x4, x5, x6⟩ := x
  simp only at h5 h6
  subst h5 h6
  exact k24_mkF w B ⟨x0, x1, x2, x3, x4, [], []⟩ (Nat.le_refl _) (Kd.F_nil _ _ _) (Nat.le_refl _) (Kd.F_nil _ _ _)

/-- Two patches in a literal. -/
theorem lit2 (w : World) (x y : S24) (c d : List Value) (hx : Kd.FK k24 w (fun _ => False) x c) (hy : Kd.FK k24 w (fun _ => False) y d) :
    Kd.V k24 24 (w.alloc (.cells (c ++ d).toArray 24)) (w.alloc (.cells (c ++ d).toArray 24)).heap.size (fun k_ => w.heap.size ≤ k_) (.slice (some ⟨w.heap.size, 0, none⟩) 2 2) [x, y] := by
  have hr : Reps (fun x c => Kd.FK k24 w (fun _ => False) x c) k24.sz [x, y] (([] ++ c) ++ d) := ((Reps.none _ _).snoc hx (Kd.FK_raw hx).2.1).snoc hy (Kd.FK_raw hy).2.1
  have ho : Kd.NN k24 24 (w.alloc (.cells (c ++ d).toArray 24)) w.heap.size (fun _ => False) (.slice (some ⟨w.heap.size, 0, none⟩) 2 2) [x, y] :=
    OwnRow.lit w w.heap.size (hr.imp_ (fun _ _ h => Kd.FK_below h (below_alloc (Below.refl _ _) _))) (Nat.le_refl _) (by simp)
  exact Kd.V_mono (Kd.N_V (Kd.NN_N ho (fun _ h => h.elim))) (fun k hk => hk.elim (fun h => h.elim) id)

set_option maxRecDepth 100000 in
set_option maxHeartbeats 2000000 in
theorem head_calls (w : World) : Calls Tryd.prog 15 #[] w fun e w' => e = .returned (.bool true) ∧ Below w.heap.size w w' := by
  go_enter Tryd.func15, Tryd.ntmps15
  go_wp2_with (fail)
  refine (inv_add 1 2 (by omega) (by omega) (idx_opp 1 (by omega) (by omega)) _ _ _ _ _ _ _ _ _ _ _).mono ?_
  rintro e w1 ⟨rfl, hb1⟩
  go_wp2_with (fail)
  refine (inv10 _ _ _ _ _ _ _ _ _ _ _).mono ?_
  rintro e w2 ⟨rfl, hb2⟩
  go_wp2_with (fail)
  refine (invert_All.calls (fun k_ => w2.heap.size + 1 ≤ k_) _ _ [⟨3, ⟨#[120]⟩, ⟨#[]⟩, ⟨#[]⟩, 0, [], []⟩, ⟨9, ⟨#[121]⟩, ⟨#[122]⟩, ⟨#[]⟩, 0, [], []⟩] _ _ (by have := lit2 (w2.alloc (.cells #[.int .i64 10, .string ⟨#[98]⟩, .string ⟨#[97]⟩, .string ⟨#[]⟩, .int .i64 0, .slice none 0 0, .slice none 0 0] 24)) ⟨3, ⟨#[120]⟩, ⟨#[]⟩, ⟨#[]⟩, 0, [], []⟩ ⟨9, ⟨#[121]⟩, ⟨#[122]⟩, ⟨#[]⟩, 0, [], []⟩ _ _ (z_FK _ _ _ rfl rfl) (z_FK _ _ _ rfl rfl); simpa using this) rfl).mono ?_
  rintro e w3 ⟨v, rfl, hN, hb3⟩
  have hN' : Kd.N k24 24 w3 _ _ v [⟨9, ⟨#[121]⟩, ⟨#[]⟩, ⟨#[122]⟩, 0, [], []⟩, ⟨4, ⟨#[120]⟩, ⟨#[]⟩, ⟨#[]⟩, 0, [], []⟩] := hN
  obtain ⟨Av, cv, rfl, hcv, hCv⟩ := Kd.N_reads hN'
  obtain ⟨ad, _, _, _, _, rfl, _, _, _, z03, _⟩ := at_T24 hCv 0 (by omega) (by simp)
  obtain ⟨ad', _, _, _, _, e', z10, _⟩ := at_T24 hCv 1 (by omega) (by simp)
  cases e'
  have y03 : w3.cell? ⟨ad.block, ad.off + 3, none⟩ = some (.string ⟨#[122]⟩) := by simpa [Addr.add, rd_T24] using z03
  have y10 : w3.cell? ⟨ad.block, ad.off + 7, none⟩ = some (.int .i64 4) := by simpa [Addr.add, rd_T24] using z10
  clear hN hN' z03 z10 hcv
  have hB12 : Below w.heap.size w w2 := (hb1.alloc hb1.size _).trans (hb2.mono (by have := hb1.size; simp; omega))
  have hs1 : w1.heap.size < w2.heap.size := by have := hb2.size; simp at this; omega
  have hs2 : w2.heap.size + 1 < w3.heap.size := by have := hb3.size; simp at this; omega
  have a0 : w3.cell? ⟨w1.heap.size, 0, none⟩ = some (.int .i64 2) := by
    refine pw_cell_below hb3 ?_
    rw [World.cell?_alloc_lt _ _ _ (by simp; omega), World.cell?_alloc_lt _ _ _ (by simpa using hs1)]
    refine pw_cell_below hb2 ?_
    exact blk_cell (heap_alloc_new w1 _) 0
  have a1 : w3.cell? ⟨w1.heap.size, 1, none⟩ = some (.string ⟨#[97]⟩) := by
    refine pw_cell_below hb3 ?_
    rw [World.cell?_alloc_lt _ _ _ (by simp; omega), World.cell?_alloc_lt _ _ _ (by simpa using hs1)]
    refine pw_cell_below hb2 ?_
    exact blk_cell (heap_alloc_new w1 _) 1
  have b1 : w3.cell? ⟨w2.heap.size, 1, none⟩ = some (.string ⟨#[98]⟩) := by
    refine pw_cell_below hb3 ?_
    rw [World.cell?_alloc_lt _ _ _ (by simp)]
    exact blk_cell (heap_alloc_new w2 _) 1
  have b2 : w3.cell? ⟨w2.heap.size, 2, none⟩ = some (.string ⟨#[97]⟩) := by
    refine pw_cell_below hb3 ?_
    rw [World.cell?_alloc_lt _ _ _ (by simp)]
    exact blk_cell (heap_alloc_new w2 _) 2
  have hB3 : Below w.heap.size w w3 := ((hB12.alloc hB12.size _).alloc (by have := hB12.size; simp; omega) _).trans (hb3.mono (by have := hB12.size; simp; omega))
  clear hb1 hb2 hb3 hB12 hCv
  dsimp only [List.length_cons, List.length_nil]
  go_wp2_with (fail)
  refine (inv_no 11 (by omega) _ _ _ _ _ _ _ _ _ _ _).mono ?_
  rintro e w4 ⟨rfl, hb4⟩
  have hfi : ∀ W, (Instr.field 24 (.agg #[.int .i64 0, .string ⟨#[]⟩, .string ⟨#[]⟩, .string ⟨#[]⟩, .int .i64 0, .slice none 0 0, .slice none 0 0]) 1).run Tryd.prog W = .ok (.string ⟨#[]⟩) W := fun _ => by kernel_rfl
  go_wp2
  go_ret
  exact ⟨rfl, hB3.trans (hb4.mono hB3.size)⟩
end Go.Proofs.YthhohbidjhcjeaaDoor.H

namespace Go.Proofs.YthhohbidjhcjeaaDoor.Q
open Go.RowKit Go.Proofs.YthhohbidjhcjeaaDoorW.PrintWords
/-! ### in the printed form -/
def counterpanelaw09_head.f : Option (Bool) := some true
theorem counterpanelaw09_head.calls (r : Bool) (w : World) (h : counterpanelaw09_head.f = some r) :
    Calls Tryd.prog 15 #[] w fun e w' => e = .returned (.bool r) ∧ Below w.heap.size w w' := by
  obtain rfl := Option.some.inj h
  exact H.head_calls w
end Go.Proofs.YthhohbidjhcjeaaDoor.Q
