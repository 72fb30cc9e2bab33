/- The statements InvertTells and InvertRow hold: whatever the input the law returns true, and the input reads behind the call as before. -/
import Derived.Test.YthhohbidjhcjeaaRows
import Derived.Test.YthhohbidjhcjeaaOp
import Derived.Test.YthhohbidjhcjeaaPb
import Derived.WalkKit
import Derived.ProofKit
import Derived.OpenShut
import Derived.ShutString
import Derived.ChangeOld
import Derived.Below
import Derived.SizedLaws
namespace Go.Proofs.Ythhohbidjhcjeaa.Rq
open Go.ChangeShapes Go.WideShapes Go.ChangeAt Go.RowKit Go.Proofs.YthhohbidjhcjeaaW.PrintWords Go.Proofs.YthhohbidjhcjeaaW.PrintMore Go.Proofs.Ythhohbidjhcjeaa.Q Go.Proofs.Ythhohbidjhcjeaa.Op Go.Proofs.Ythhohbidjhcjeaa.Pl
theorem own : ownKnob Try.prog.godebug = none := by kernel_rfl
theorem laidOut : laidOutB Try.prog = true := by kernel_rfl
theorem o9 : Opens Try.prog 9 Kd.string (fun s => s.size ≤ 140737488351232) := opens_string (P := Try.prog) (by kernel_rfl)
theorem o3 : Opens Try.prog 3 (Kd.int .i64) (fun n => (Lit.int .i64 n).wf = true) := opens_int (P := Try.prog) (by kernel_rfl)
theorem o22 : Opens Try.prog 22 (Kd.slice 9 Kd.string) (fun xs => xs.length ≤ maxLen ∧ xs.length * 16 ≤ 140737488351232 ∧ ∀ x ∈ xs, x.size ≤ 140737488351232) := opens_slice (P := Try.prog) 16 (by kernel_rfl) o9 (by kernel_rfl) (by kernel_rfl)
theorem o24 : Opens Try.prog 24 k24 Ok24 := by
  refine opens_imp (opens_iso (fun x : S24 => (x.f0, x.f1, x.f2, x.f3, x.f4, x.f5, x.f6)) (fun x => ⟨x.1, x.2.1, x.2.2.1, x.2.2.2.1, x.2.2.2.2.1, x.2.2.2.2.2.1, x.2.2.2.2.2.2⟩) (fun _ => rfl) (opens_struct (P := Try.prog) Try.underlying24 (by kernel_rfl)
    (opensAt_cons o3 rfl (by kernel_rfl) (opensAt_cons o9 rfl (by kernel_rfl) (opensAt_cons o9 rfl (by kernel_rfl) (opensAt_cons o9 rfl (by kernel_rfl) (opensAt_cons o3 rfl (by kernel_rfl) (opensAt_cons o22 rfl (by kernel_rfl) (opensAt_one o22 rfl (by kernel_rfl)))))))))) ?_
  rintro a ⟨_, _, _, _, _, ⟨_, h5, _⟩, ⟨_, h6, _⟩⟩
  dsimp only at h5 h6
  exact ⟨by omega, by omega⟩
theorem o25 : Opens Try.prog 25 (Kd.slice 24 k24) (fun xs => xs.length ≤ maxLen ∧ xs.length * 112 ≤ 140737488351232 ∧ ∀ x ∈ xs, Ok24 x) := opens_slice (P := Try.prog) 112 (by kernel_rfl) o24 (by kernel_rfl) (by kernel_rfl)
set_option maxRecDepth 100000 in
theorem invertTells_lifted (os : Os) (started : os.Started) (H : Type) (enc : TypeId × Value → H) :
    ReturnsInHanded {} Try.checked os 3 .any (Rows.invertTellsSpec.pre6 enc Try.prog Try.f3 Rows.invertTellsRow.domain false) (Rows.invertTellsSpec.post enc Try.prog Try.f3 false true false false) := by
  refine returnsInHanded_of_change_sized (C := Try.checked) own started (by kernel_rfl) Try.func3
    (ChangeSpec.witness6 (enc := enc) (C := Try.checked) false ⟨#[], #[.agg #[.int .i64 0, .string ByteArray.empty, .string ByteArray.empty, .string ByteArray.empty, .int .i64 0, .slice none 0 0, .slice none 0 0], .slice none 0 0], []⟩ 8 (by kernel_rfl) (by kernel_rfl) (by kernel_rfl) (by kernel_rfl)) ?_
  intro W base args ds gs before hval0 hW hcnd hsz0 _
  have hsz : (DataW.weightsEach Try.prog (Try.f3.params.toList ++ Rows.invertTellsSpec.plain.varTypes Try.prog) (ds ++ gs)).all (· ≤ reachBytes) = true := hsz0
  have hval : ∀ (j : Nat) t v, Try.f3.params[j]? = some t → args[j]? = some v → Value.okWide Try.prog W .any base t v := hval0
  have hW' := hW
  obtain ⟨p, q, hA0, hV, rfl, hfz, hnd⟩ := hW
  have hA : DataW.TrodAll enc Try.prog W 0 (fun _ => true) true Try.f3.params.toList args.toList ds p := hA0
  rw [Try.params3] at hA hval hsz
  obtain ⟨v0, vs0, d0, ds0, p0, q0, hargs, rfl, rfl, h0, r0⟩ := trodAll_cons hA
  obtain ⟨v1, vs1, d1, ds1, p1, q1, rfl, rfl, rfl, h1, r1⟩ := trodAll_cons r0
  obtain ⟨rfl, rfl, rfl⟩ := trodAll_nil r1
  obtain rfl : args = #[v0, v1] := by cases args; simp_all
  obtain ⟨rfl, rfl⟩ := trodVars_none hV
  have k0 := h0
  have lt0 : ∀ x ∈ p0, x.block < W.heap.size := by obtain ⟨m, hm⟩ := k0; exact DataW.trod_lt m _ _ _ hm
  obtain ⟨x0, hK0, hG0⟩ := opened o24 h0 hsz (j := 0) rfl rfl
  obtain ⟨c0, rfl, _⟩ := okWide_struct Try.underlying24 (hval 0 24 v0 rfl rfl)
  obtain ⟨A05, c05, A06, c06, hc0, l05, g05, l06, g06⟩ := k24_open hK0
  obtain rfl : c0 = #[.int .i64 x0.f0, .string x0.f1, .string x0.f2, .string x0.f3, .int .i64 x0.f4, .slice A05 x0.f5.length c05, .slice A06 x0.f6.length c06] := by rw [← Array.toList_inj]; exact hc0
  have k1 := h1
  have lt1 : ∀ x ∈ p1, x.block < W.heap.size := by obtain ⟨m, hm⟩ := k1; exact DataW.trod_lt m _ _ _ hm
  obtain ⟨x1, hK1, hG1⟩ := opened o25 h1 hsz (j := 1) rfl rfl
  obtain ⟨B1, u1, hc1, lu1, g1⟩ := hK1
  obtain ⟨b1, n1, m1, rfl⟩ := okWide_slice Try.underlying25 (hval 1 25 v1 rfl rfl)
  obtain ⟨rfl, rfl, rfl⟩ : b1 = B1 ∧ n1 = x1.length ∧ m1 = u1 := by simpa [Value.cells] using hc1
  obtain ⟨_, hb1, hg1⟩ := hG1
  clear hA0 hval0 hsz0 hsz
  obtain ⟨k, hk⟩ := invertTells x0 x1 hG0 (by omega) hg1
  refine (counterpanelaw09_InvertTells.calls k _ _ _ _ _ _ _ _ _ _ _ _ _ _ _ W g05 l05 g06 l06 g1 lu1 hk).mono fun e W' ⟨he, bel⟩ => ?_
  subst he
  exact ⟨_, rfl, _, _, _, [], _, [], hW', trodAll_mk1 (shut_bool Try.underlying4 _), (trodAll_cons_mk (Below.trod laidOut (by kernel_rfl) (of_decide_eq_true (by kernel_rfl)) k0 bel lt0) (trodAll_cons_mk (Below.trod laidOut (by kernel_rfl) (of_decide_eq_true (by kernel_rfl)) k1 bel lt1) trodAll_mk0)), rfl, bel.frame _, fun h => by cases h⟩
theorem invertTells_over : Rows.invertTellsRow.holds Try.pinned (OpenSpec.ofChange Rows.invertTellsSpec) :=
  OpenClaim.holds_of_wide 3 Try.f3 rfl rfl rfl rfl rfl rfl rfl ⟨rfl, rfl, rfl, rfl, rfl⟩ rfl rfl rfl rfl rfl (by kernel_rfl) Try.func3 (by kernel_rfl)
    (of_decide_eq_true (by kernel_rfl)) (by unfold Func.isWrapper; first | (rw [if_pos (by decide +kernel)]; kernel_rfl) | (rw [if_neg (by decide +kernel)]; exact ⟨rfl, rfl⟩))
    (fun os started H enc _ => invertTells_lifted os started H enc)
set_option maxRecDepth 100000 in
theorem invertRow_lifted (os : Os) (started : os.Started) (H : Type) (enc : TypeId × Value → H) :
    ReturnsInHanded {} Try.checked os 4 .any (Rows.invertRowSpec.pre6 enc Try.prog Try.f4 Rows.invertRowRow.domain false) (Rows.invertRowSpec.post enc Try.prog Try.f4 false true false false) := by
  refine returnsInHanded_of_change_sized (C := Try.checked) own started (by kernel_rfl) Try.func4
    (ChangeSpec.witness6 (enc := enc) (C := Try.checked) false ⟨#[], #[.slice none 0 0, .slice none 0 0], []⟩ 8 (by kernel_rfl) (by kernel_rfl) (by kernel_rfl) (by kernel_rfl)) ?_
  intro W base args ds gs before hval0 hW hcnd hsz0 _
  have hsz : (DataW.weightsEach Try.prog (Try.f4.params.toList ++ Rows.invertRowSpec.plain.varTypes Try.prog) (ds ++ gs)).all (· ≤ reachBytes) = true := hsz0
  have hval : ∀ (j : Nat) t v, Try.f4.params[j]? = some t → args[j]? = some v → Value.okWide Try.prog W .any base t v := hval0
  have hW' := hW
  obtain ⟨p, q, hA0, hV, rfl, hfz, hnd⟩ := hW
  have hA : DataW.TrodAll enc Try.prog W 0 (fun _ => true) true Try.f4.params.toList args.toList ds p := hA0
  rw [Try.params4] at hA hval hsz
  obtain ⟨v0, vs0, d0, ds0, p0, q0, hargs, rfl, rfl, h0, r0⟩ := trodAll_cons hA
  obtain ⟨v1, vs1, d1, ds1, p1, q1, rfl, rfl, rfl, h1, r1⟩ := trodAll_cons r0
  obtain ⟨rfl, rfl, rfl⟩ := trodAll_nil r1
  obtain rfl : args = #[v0, v1] := by cases args; simp_all
  obtain ⟨rfl, rfl⟩ := trodVars_none hV
  have k0 := h0
  have lt0 : ∀ x ∈ p0, x.block < W.heap.size := by obtain ⟨m, hm⟩ := k0; exact DataW.trod_lt m _ _ _ hm
  obtain ⟨x0, hK0, hG0⟩ := opened o25 h0 hsz (j := 0) rfl rfl
  obtain ⟨B0, u0, hc0, lu0, g0⟩ := hK0
  obtain ⟨b0, n0, m0, rfl⟩ := okWide_slice Try.underlying25 (hval 0 25 v0 rfl rfl)
  obtain ⟨rfl, rfl, rfl⟩ : b0 = B0 ∧ n0 = x0.length ∧ m0 = u0 := by simpa [Value.cells] using hc0
  obtain ⟨_, hb0, hg0⟩ := hG0
  have k1 := h1
  have lt1 : ∀ x ∈ p1, x.block < W.heap.size := by obtain ⟨m, hm⟩ := k1; exact DataW.trod_lt m _ _ _ hm
  obtain ⟨x1, hK1, hG1⟩ := opened o25 h1 hsz (j := 1) rfl rfl
  obtain ⟨B1, u1, hc1, lu1, g1⟩ := hK1
  obtain ⟨b1, n1, m1, rfl⟩ := okWide_slice Try.underlying25 (hval 1 25 v1 rfl rfl)
  obtain ⟨rfl, rfl, rfl⟩ : b1 = B1 ∧ n1 = x1.length ∧ m1 = u1 := by simpa [Value.cells] using hc1
  obtain ⟨_, hb1, hg1⟩ := hG1
  clear hA0 hval0 hsz0 hsz
  obtain ⟨k, hk⟩ := invertRow x0 x1 (by omega) hg0 (by omega) hg1
  refine (counterpanelaw09_InvertRow.calls k (fun k => k < W.heap.size) _ _ x0 (fun k => k < W.heap.size) _ _ x1 _ W (Kd.V_mk lu0 (Kd.C_F k24_heap g0)) (Kd.V_mk lu1 (Kd.C_F k24_heap g1)) hk).mono fun e W' ⟨he, bel⟩ => ?_
  subst he
  exact ⟨_, rfl, _, _, _, [], _, [], hW', trodAll_mk1 (shut_bool Try.underlying4 _), (trodAll_cons_mk (Below.trod laidOut (by kernel_rfl) (of_decide_eq_true (by kernel_rfl)) k0 bel lt0) (trodAll_cons_mk (Below.trod laidOut (by kernel_rfl) (of_decide_eq_true (by kernel_rfl)) k1 bel lt1) trodAll_mk0)), rfl, bel.frame _, fun h => by cases h⟩
theorem invertRow_over : Rows.invertRowRow.holds Try.pinned (OpenSpec.ofChange Rows.invertRowSpec) :=
  OpenClaim.holds_of_wide 4 Try.f4 rfl rfl rfl rfl rfl rfl rfl ⟨rfl, rfl, rfl, rfl, rfl⟩ rfl rfl rfl rfl rfl (by kernel_rfl) Try.func4 (by kernel_rfl)
    (of_decide_eq_true (by kernel_rfl)) (by unfold Func.isWrapper; first | (rw [if_pos (by decide +kernel)]; kernel_rfl) | (rw [if_neg (by decide +kernel)]; exact ⟨rfl, rfl⟩))
    (fun os started H enc _ => invertRow_lifted os started H enc)
end Go.Proofs.Ythhohbidjhcjeaa.Rq
namespace Go.Proofs.Ythhohbidjhcjeaa
/-- The row of InvertTells. -/
theorem InvertTells_holds : Rows.InvertTellsSaid := Rq.invertTells_over
/-- The row of InvertRow. -/
theorem InvertRow_holds : Rows.InvertRowSaid := Rq.invertRow_over
#print axioms InvertTells_holds
#print axioms InvertRow_holds
end Go.Proofs.Ythhohbidjhcjeaa
