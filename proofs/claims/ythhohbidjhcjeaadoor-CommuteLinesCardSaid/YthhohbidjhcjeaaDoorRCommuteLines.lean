/- The statement CommuteLines holds: whatever the input the law returns true, and the input reads behind the call as before; the listed tables are tied to the program's text. -/
import Derived.Test.YthhohbidjhcjeaaDoorRows
import Derived.Test.YthhohbidjhcjeaaDoorCards
import Derived.Test.YthhohbidjhcjeaaDoorTie
import Derived.Test.YthhohbidjhcjeaaDoorOd
import Derived.Test.YthhohbidjhcjeaaDoorLn
import Derived.WalkKit
import Derived.ProofKit
import Derived.OpenShut
import Derived.ShutString
import Derived.ChangeOld
import Derived.Below
import Derived.SizedLaws
import Derived.Lay
import Derived.LaidOnce
import Derived.LaidMore
import Derived.SevenTiedAt
namespace Go.Proofs.YthhohbidjhcjeaaDoor.RCommuteLines
open Go.ChangeShapes Go.WideShapes Go.ChangeAt Go.RowKit Go.Proofs.YthhohbidjhcjeaaDoorW.PrintWords Go.Proofs.YthhohbidjhcjeaaDoorW.PrintMore Go.Proofs.YthhohbidjhcjeaaDoor.Q Go.Proofs.YthhohbidjhcjeaaDoor.Op Go.Proofs.YthhohbidjhcjeaaDoor.Pl Go.Proofs.YthhohbidjhcjeaaDoor.Od
set_option maxRecDepth 100000 in
theorem lifted (os : Os) (started : os.Started) (H : Type) (enc : TypeId × Value → H) :
    ReturnsInHanded {} Tryd.checked os 8 .any (fun w args => (Rows.commuteLinesSpec.pre enc Tryd.prog Tryd.f8 [] false w args ∧ laidMetH Tryd.prog laidTabs w) ∧ sizedMet enc Tryd.prog Tryd.f8 (OpenSpec.ofChange Rows.commuteLinesSpec) false w args)
      (Rows.commuteLinesSpec.post enc Tryd.prog Tryd.f8 false true false false) := by
  refine returnsInHanded_of_change_and (C := Tryd.checked) (X := fun w _ => laidMetH Tryd.prog laidTabs w) (fun _ _ _ hh h => h.of_heap hh) own started (by kernel_rfl) Tryd.func8
    (ChangeSpec.witness_shaped (enc := enc) (C := Tryd.checked) (os := os) (X := fun w _ => laidMetH Tryd.prog laidTabs w) false (World.laidAll Tryd.prog os laidTabs) #[.int .u16 0, .slice none 0 0, .slice none 0 0, .int .u16 0, .slice none 0 0, .slice none 0 0] 8 (World.laidAll_os _ _ _)
      (World.shaped_of_ZipB (by kernel_rfl) (by kernel_rfl)) (by kernel_rfl) (by kernel_rfl) (by kernel_rfl)
      (by rw [MakeChecks.laidMetH_plain _ _ _ (by kernel_rfl)]; exact laidMet_laidAll _ (by kernel_rfl) (by kernel_rfl))) ?_
  intro W base args ds gs before hval0 hW _ hsz0 hL _
  have hsz : (DataW.weightsEach Tryd.prog (Tryd.f8.params.toList ++ Rows.commuteLinesSpec.plain.varTypes Tryd.prog) (ds ++ gs)).all (· ≤ reachBytes) = true := hsz0
  have hval : ∀ (j : Nat) t v, Tryd.f8.params[j]? = some t → args[j]? = some v → Value.okWide Tryd.prog W .any base t v := hval0
  have hW' := hW
  obtain ⟨p, q, hA0, hV, rfl, hfz, hnd⟩ := hW
  have hA : DataW.TrodAll enc Tryd.prog W 0 (fun _ => true) true Tryd.f8.params.toList args.toList ds p := hA0
  rw [Tryd.params8] at hA hval hsz
  obtain ⟨v0, vs0, d0, ds0, p0, q0, hargs, rfl, rfl, h0, r0⟩ := trodAll_cons hA
  obtain ⟨v1, vs1, d1, ds1, p1, q1, rfl, rfl, rfl, h1, r1⟩ := trodAll_cons r0
  obtain ⟨v2, vs2, d2, ds2, p2, q2, rfl, rfl, rfl, h2, r2⟩ := trodAll_cons r1
  obtain ⟨v3, vs3, d3, ds3, p3, q3, rfl, rfl, rfl, h3, r3⟩ := trodAll_cons r2
  obtain ⟨v4, vs4, d4, ds4, p4, q4, rfl, rfl, rfl, h4, r4⟩ := trodAll_cons r3
  obtain ⟨v5, vs5, d5, ds5, p5, q5, rfl, rfl, rfl, h5, r5⟩ := trodAll_cons r4
  obtain ⟨rfl, rfl, rfl⟩ := trodAll_nil r5
  obtain rfl : args = #[v0, v1, v2, v3, v4, v5] := by cases args; simp_all
  obtain ⟨rfl, rfl⟩ := trodVars_none hV
  have k0 := h0
  have lt0 : ∀ x ∈ p0, x.block < W.heap.size := by obtain ⟨m, hm⟩ := k0; exact DataW.trod_lt m _ _ _ hm
  obtain ⟨x0, hK0, hG0⟩ := opened o40 h0 hsz (j := 0) rfl rfl
  obtain ⟨n0, rfl⟩ := okWide_int Tryd.underlying40 (hval 0 40 v0 rfl rfl)
  obtain rfl : x0 = n0 := by have h_ : [Value.int .u16 n0] = [Value.int .u16 x0] := hK0; simpa using h_.symm
  have hx0 : 0 ≤ x0 ∧ x0 ≤ 65535 := by simpa [Lit.wf, IntKind.min, IntKind.max, IntKind.signed, IntKind.bits] using hG0
  have k1 := h1
  have lt1 : ∀ x ∈ p1, x.block < W.heap.size := by obtain ⟨m, hm⟩ := k1; exact DataW.trod_lt m _ _ _ hm
  obtain ⟨x1, hK1, hG1⟩ := opened o22 h1 hsz (j := 1) rfl rfl
  obtain ⟨B1, u1, hc1, lu1, g1⟩ := hK1
  obtain ⟨b1, n1, m1, rfl⟩ := okWide_slice Tryd.underlying22 (hval 1 22 v1 rfl rfl)
  obtain ⟨rfl, rfl, rfl⟩ : b1 = B1 ∧ n1 = x1.length ∧ m1 = u1 := by simpa [Value.cells] using hc1
  obtain ⟨_, hb1, hg1⟩ := hG1
  have k2 := h2
  have lt2 : ∀ x ∈ p2, x.block < W.heap.size := by obtain ⟨m, hm⟩ := k2; exact DataW.trod_lt m _ _ _ hm
  obtain ⟨x2, hK2, hG2⟩ := opened o22 h2 hsz (j := 2) rfl rfl
  obtain ⟨B2, u2, hc2, lu2, g2⟩ := hK2
  obtain ⟨b2, n2, m2, rfl⟩ := okWide_slice Tryd.underlying22 (hval 2 22 v2 rfl rfl)
  obtain ⟨rfl, rfl, rfl⟩ : b2 = B2 ∧ n2 = x2.length ∧ m2 = u2 := by simpa [Value.cells] using hc2
  obtain ⟨_, hb2, hg2⟩ := hG2
  have k3 := h3
  have lt3 : ∀ x ∈ p3, x.block < W.heap.size := by obtain ⟨m, hm⟩ := k3; exact DataW.trod_lt m _ _ _ hm
  obtain ⟨x3, hK3, hG3⟩ := opened o40 h3 hsz (j := 3) rfl rfl
  obtain ⟨n3, rfl⟩ := okWide_int Tryd.underlying40 (hval 3 40 v3 rfl rfl)
  obtain rfl : x3 = n3 := by have h_ : [Value.int .u16 n3] = [Value.int .u16 x3] := hK3; simpa using h_.symm
  have hx3 : 0 ≤ x3 ∧ x3 ≤ 65535 := by simpa [Lit.wf, IntKind.min, IntKind.max, IntKind.signed, IntKind.bits] using hG3
  have k4 := h4
  have lt4 : ∀ x ∈ p4, x.block < W.heap.size := by obtain ⟨m, hm⟩ := k4; exact DataW.trod_lt m _ _ _ hm
  obtain ⟨x4, hK4, hG4⟩ := opened o22 h4 hsz (j := 4) rfl rfl
  obtain ⟨B4, u4, hc4, lu4, g4⟩ := hK4
  obtain ⟨b4, n4, m4, rfl⟩ := okWide_slice Tryd.underlying22 (hval 4 22 v4 rfl rfl)
  obtain ⟨rfl, rfl, rfl⟩ : b4 = B4 ∧ n4 = x4.length ∧ m4 = u4 := by simpa [Value.cells] using hc4
  obtain ⟨_, hb4, hg4⟩ := hG4
  have k5 := h5
  have lt5 : ∀ x ∈ p5, x.block < W.heap.size := by obtain ⟨m, hm⟩ := k5; exact DataW.trod_lt m _ _ _ hm
  obtain ⟨x5, hK5, hG5⟩ := opened o22 h5 hsz (j := 5) rfl rfl
  obtain ⟨B5, u5, hc5, lu5, g5⟩ := hK5
  obtain ⟨b5, n5, m5, rfl⟩ := okWide_slice Tryd.underlying22 (hval 5 22 v5 rfl rfl)
  obtain ⟨rfl, rfl, rfl⟩ : b5 = B5 ∧ n5 = x5.length ∧ m5 = u5 := by simpa [Value.cells] using hc5
  obtain ⟨_, hb5, hg5⟩ := hG5
  clear hA0 hval0 hsz0 hsz
  refine (Go.Proofs.YthhohbidjhcjeaaDoor.H.lines10_calls x0 x3 x1 x2 x4 x5 b1 m1 b2 m2 b4 m4 b5 m5 W hx0.1 hx0.2 hx3.1 hx3.2 ⟨⟨by show x1.length ≤ _; omega, by show x2.length ≤ _; omega⟩, by show (⟨#[97]⟩ : ByteArray).size ≤ _; decide, by show (⟨#[]⟩ : ByteArray).size ≤ _; decide, by show (⟨#[]⟩ : ByteArray).size ≤ _; decide⟩ ⟨⟨by show x4.length ≤ _; omega, by show x5.length ≤ _; omega⟩, by show (⟨#[97]⟩ : ByteArray).size ≤ _; decide, by show (⟨#[]⟩ : ByteArray).size ≤ _; decide, by show (⟨#[]⟩ : ByteArray).size ≤ _; decide⟩ ⟨g1, lu1, g2, lu2⟩ ⟨g4, lu4, g5, lu5⟩).mono fun e W' ⟨he, bel⟩ => ?_
  subst he
  exact ⟨_, rfl, _, _, _, [], _, [], hW', trodAll_mk1 (shut_bool Tryd.underlying4 _), (trodAll_cons_mk (Below.trod laidOut (by kernel_rfl) (of_decide_eq_true (by kernel_rfl)) k0 bel lt0) (trodAll_cons_mk (Below.trod laidOut (by kernel_rfl) (of_decide_eq_true (by kernel_rfl)) k1 bel lt1) (trodAll_cons_mk (Below.trod laidOut (by kernel_rfl) (of_decide_eq_true (by kernel_rfl)) k2 bel lt2) (trodAll_cons_mk (Below.trod laidOut (by kernel_rfl) (of_decide_eq_true (by kernel_rfl)) k3 bel lt3) (trodAll_cons_mk (Below.trod laidOut (by kernel_rfl) (of_decide_eq_true (by kernel_rfl)) k4 bel lt4) (trodAll_cons_mk (Below.trod laidOut (by kernel_rfl) (of_decide_eq_true (by kernel_rfl)) k5 bel lt5) trodAll_mk0)))))), rfl, bel.frame _, fun h => by cases h⟩
theorem over : Rows.commuteLinesRow.holds Tryd.pinned (OpenSpec.ofChange Rows.commuteLinesSpec) :=
  OpenClaim.holds_of_wide 8 Tryd.f8 rfl rfl rfl rfl rfl rfl rfl ⟨rfl, rfl, rfl, rfl, rfl⟩ rfl rfl rfl rfl rfl (by kernel_rfl) Tryd.func8 (by kernel_rfl)
    (of_decide_eq_true (by kernel_rfl)) (by unfold Func.isWrapper; first | (rw [if_pos (by decide +kernel)]; kernel_rfl) | (rw [if_neg (by decide +kernel)]; exact ⟨rfl, rfl⟩))
    (fun os started H enc _ => lifted os started H enc)
theorem card : Rows.CommuteLinesCardSaid :=
  Claim7.holds_tied_plain_at .later [] [.data, .pinned] true (true, "0a251ecfe7ff6804b17a262088b2e9602ece1cbe531fc6497e775b1d705626d6") false over (fun _ h => by cases h) (by kernel_rfl) (fun _ h => by cases h) commuteLines_row_tie rfl ⟨rfl, rfl⟩ (by kernel_rfl) rfl
    (fun f fn hf hfn => by
      obtain rfl : f = 8 := Option.some.inj ((show Tryd.prog.funcNamed Rows.commuteLinesRow.func = some 8 by kernel_rfl).symm.trans hf) |>.symm
      obtain rfl : fn = Tryd.f8 := (Option.some.inj (Tryd.func8.symm.trans hfn)).symm
      exact ⟨by kernel_rfl, fun j t ht => by
        rw [Tryd.params8] at ht
        have hm : t ∈ [40, 22, 22, 40, 22, 22] := by simpa using Array.mem_of_getElem? ht
        have hall : ([40, 22, 22, 40, 22, 22].all fun u => !Tryd.prog.wantsStandIn u) = true := by kernel_rfl
        exact (show Tryd.prog.wantsStandIn t = false by simpa using List.all_eq_true.1 hall t hm)⟩)
    (by kernel_rfl)
end Go.Proofs.YthhohbidjhcjeaaDoor.RCommuteLines
namespace Go.Proofs.YthhohbidjhcjeaaDoor
/-- The card of CommuteLines. -/
theorem CommuteLines_card : Rows.CommuteLinesCardSaid := RCommuteLines.card
#print axioms CommuteLines_card
end Go.Proofs.YthhohbidjhcjeaaDoor
