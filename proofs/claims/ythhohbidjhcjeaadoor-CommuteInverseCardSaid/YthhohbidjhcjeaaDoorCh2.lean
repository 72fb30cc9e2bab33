/- The walk of commute.Commute: the scenarios. -/
import Derived.Test.YthhohbidjhcjeaaDoorCs
namespace Go.Proofs.YthhohbidjhcjeaaDoor.H
open Go.RowKit Go.Proofs.YthhohbidjhcjeaaDoorW.PrintWords Go.Proofs.YthhohbidjhcjeaaDoorW.PrintLast Go.Proofs.YthhohbidjhcjeaaDoorW.PrintMore
open Go.Proofs.YthhohbidjhcjeaaDoor.Q Go.Proofs.YthhohbidjhcjeaaDoor.Pl
set_option maxHeartbeats 8000000 in
set_option maxRecDepth 100000 in
theorem comm_nq2 (p q p2 q2 : S24) (A5 : Option Addr) (c5 : Nat) (A6 : Option Addr) (c6 : Nat) (B5 : Option Addr) (d5 : Nat) (B6 : Option Addr) (d6 : Nat) (w : World) (hp : Okp p) (rp : Rd w p A5 c5 A6 c6) (b1 : primB p = true) (hq : Okp q) (rq : Rd w q B5 d5 B6 d6) (b2 : primB q = true) (hp2 : Okp p2) (rp2 : Rd w p2 A5 c5 A6 c6) (b3 : primB p2 = true) (hq2 : Okp q2) (rq2 : Rd w q2 B5 d5 B6 d6) (b4 : primB q2 = false) (n : Nat) (en : ∀ args w, (callFunc n args).run Tryd.prog w = .ok (.enter n args) w) (row : Array Value) (h70 : ∀ W, (Instr.index 70 (.agg rulesV) (.int .i64 (classS p))).run Tryd.prog W = .ok (.agg row) W) (h69 : ∀ W, (Instr.index 69 (.agg row) (.int .i64 (classS q))).run Tryd.prog W = .ok (.func (.func n) #[] #[]) W)
    (hrule : ∀ W, St w #[.int .i64 p.f0, .string p.f1, .string p.f2, .string p.f3, .int .i64 p.f4, .slice A5 p.f5.length c5, .slice A6 p.f6.length c6] #[.int .i64 q.f0, .string q.f1, .string q.f2, .string q.f3, .int .i64 q.f4, .slice B5 q.f5.length d5, .slice B6 q.f6.length d6] W → Calls Tryd.prog n #[.pointer (some ⟨w.heap.size, 0, none⟩), .pointer (some ⟨w.heap.size + 1, 0, none⟩)] W fun e W' => e = .returned (.bool true) ∧ St w #[.int .i64 p2.f0, .string p2.f1, .string p2.f2, .string p2.f3, .int .i64 p2.f4, .slice A5 p2.f5.length c5, .slice A6 p2.f6.length c6] #[.int .i64 q2.f0, .string q2.f1, .string q2.f2, .string q2.f3, .int .i64 q2.f4, .slice B5 q2.f5.length d5, .slice B6 q2.f6.length d6] W') :
    Calls Tryd.prog 24 #[.agg #[.int .i64 p.f0, .string p.f1, .string p.f2, .string p.f3, .int .i64 p.f4, .slice A5 p.f5.length c5, .slice A6 p.f6.length c6], .agg #[.int .i64 q.f0, .string q.f1, .string q.f2, .string q.f3, .int .i64 q.f4, .slice B5 q.f5.length d5, .slice B6 q.f6.length d6]] w fun e w' => e = .returned (.tuple #[.agg zeroC, .agg zeroC, .bool false]) ∧ Below w.heap.size w w' := by
  have RP : ∀ cp cq W, St w cp cq W → Calls Tryd.prog 19 #[.agg #[.int .i64 p.f0, .string p.f1, .string p.f2, .string p.f3, .int .i64 p.f4, .slice A5 p.f5.length c5, .slice A6 p.f6.length c6]] W fun e W' => e = .returned (.bool true) ∧ St w cp cq W' := fun cp cq W h => by
    have h2 := right_st p A5 c5 A6 c6 w W cp cq hp rp h
    rwa [b1] at h2
  have RQ : ∀ cp cq W, St w cp cq W → Calls Tryd.prog 19 #[.agg #[.int .i64 q.f0, .string q.f1, .string q.f2, .string q.f3, .int .i64 q.f4, .slice B5 q.f5.length d5, .slice B6 q.f6.length d6]] W fun e W' => e = .returned (.bool true) ∧ St w cp cq W' := fun cp cq W h => by
    have h2 := right_st q B5 d5 B6 d6 w W cp cq hq rq h
    rwa [b2] at h2
  have RP2 : ∀ cp cq W, St w cp cq W → Calls Tryd.prog 19 #[.agg #[.int .i64 p2.f0, .string p2.f1, .string p2.f2, .string p2.f3, .int .i64 p2.f4, .slice A5 p2.f5.length c5, .slice A6 p2.f6.length c6]] W fun e W' => e = .returned (.bool true) ∧ St w cp cq W' := fun cp cq W h => by
    have h2 := right_st p2 A5 c5 A6 c6 w W cp cq hp2 rp2 h
    rwa [b3] at h2
  have RQ2 : ∀ cp cq W, St w cp cq W → Calls Tryd.prog 19 #[.agg #[.int .i64 q2.f0, .string q2.f1, .string q2.f2, .string q2.f3, .int .i64 q2.f4, .slice B5 q2.f5.length d5, .slice B6 q2.f6.length d6]] W fun e W' => e = .returned (.bool false) ∧ St w cp cq W' := fun cp cq W h => by
    have h2 := right_st q2 B5 d5 B6 d6 w W cp cq hq2 rq2 h
    rwa [b4] at h2
  go_enter Tryd.func24, Tryd.ntmps24
  go_wp2
  refine wp_region_any (by kernel_rfl) ?_
  change wpAny _ _ _ _ _ _ _ (World.drew _)
  have hs0 := (St.start w #[.int .i64 p.f0, .string p.f1, .string p.f2, .string p.f3, .int .i64 p.f4, .slice A5 p.f5.length c5, .slice A6 p.f6.length c6] #[.int .i64 q.f0, .string q.f1, .string q.f2, .string q.f3, .int .i64 q.f4, .slice B5 q.f5.length d5, .slice B6 q.f6.length d6]).drew
  apply cutG (S := St w #[.int .i64 p.f0, .string p.f1, .string p.f2, .string p.f3, .int .i64 p.f4, .slice A5 p.f5.length c5, .slice A6 p.f6.length c6] #[.int .i64 q.f0, .string q.f1, .string q.f2, .string q.f3, .int .i64 q.f4, .slice B5 q.f5.length d5, .slice B6 q.f6.length d6])
  · exact fun tail => tail _ hs0
  intro w1 hst
  clear hs0
  apply cutG (S := St w #[.int .i64 p.f0, .string p.f1, .string p.f2, .string p.f3, .int .i64 p.f4, .slice A5 p.f5.length c5, .slice A6 p.f6.length c6] #[.int .i64 q.f0, .string q.f1, .string q.f2, .string q.f3, .int .i64 q.f4, .slice B5 q.f5.length d5, .slice B6 q.f6.length d6])
  · intro tail
    obtain ⟨pc0, pc1, pc2, pc3, pc4, pc5, pc6⟩ := cells7 hst.p
    obtain ⟨qc0, qc1, qc2, qc3, qc4, qc5, qc6⟩ := cells7 hst.q
    refine wpAny_ready (rs := [0]) (by kernel_rfl) (by simp) ?_
    refine AllReady.cons rfl (fun K hK => ?_) AllReady.nil
    go_simp
    refine hK _ _ ?_
    clear hK K
    refine wpAny_ready (rs := [1]) (by kernel_rfl) (by simp) ?_
    refine AllReady.cons rfl (fun K hK => ?_) AllReady.nil
    go_simp
    refine (RP _ _ _ hst).mono ?_
    clear pc0 pc1 pc2 pc3 pc4 pc5 pc6 qc0 qc1 qc2 qc3 qc4 qc5 qc6
    rintro e w1 ⟨rfl, hst⟩
    obtain ⟨pc0, pc1, pc2, pc3, pc4, pc5, pc6⟩ := cells7 hst.p
    obtain ⟨qc0, qc1, qc2, qc3, qc4, qc5, qc6⟩ := cells7 hst.q
    refine hK _ _ ?_
    clear hK K
    refine wpAny_ready (rs := [2]) (by kernel_rfl) (by simp) ?_
    refine AllReady.cons rfl (fun K hK => ?_) AllReady.nil
    go_simp
    refine hK _ _ ?_
    clear hK K
    refine wpAny_ready (rs := [3]) (by kernel_rfl) (by simp) ?_
    refine AllReady.cons rfl (fun K hK => ?_) AllReady.nil
    go_simp
    refine hK _ _ ?_
    clear hK K
    refine wpAny_ready (rs := [4]) (by kernel_rfl) (by simp) ?_
    refine AllReady.cons rfl (fun K hK => ?_) AllReady.nil
    go_simp
    refine hK _ _ ?_
    clear hK K
    refine wpAny_ready (rs := [5]) (by kernel_rfl) (by simp) ?_
    refine AllReady.cons rfl (fun K hK => ?_) AllReady.nil
    go_simp
    refine (RQ _ _ _ hst).mono ?_
    clear pc0 pc1 pc2 pc3 pc4 pc5 pc6 qc0 qc1 qc2 qc3 qc4 qc5 qc6
    rintro e w1 ⟨rfl, hst⟩
    obtain ⟨pc0, pc1, pc2, pc3, pc4, pc5, pc6⟩ := cells7 hst.p
    obtain ⟨qc0, qc1, qc2, qc3, qc4, qc5, qc6⟩ := cells7 hst.q
    refine hK _ _ ?_
    clear hK K
    refine wpAny_ready (rs := [6]) (by kernel_rfl) (by simp) ?_
    refine AllReady.cons rfl (fun K hK => ?_) AllReady.nil
    go_simp
    refine hK _ _ ?_
    clear hK K
    refine wpAny_ready (rs := [7]) (by kernel_rfl) (by simp) ?_
    refine AllReady.cons rfl (fun K hK => ?_) AllReady.nil
    go_simp
    refine hK _ _ ?_
    clear hK K
    refine wpAny_ready (rs := [8]) (by kernel_rfl) (by simp) ?_
    refine AllReady.cons rfl (fun K hK => ?_) AllReady.nil
    go_simp
    refine hK _ _ ?_
    clear hK K
    refine wpAny_ready (rs := [9, 10, 13]) (by kernel_rfl) (by simp) ?_
    refine AllReady.cons rfl (fun K hK => ?_) (AllReady.cons rfl (fun K hK => ?_) (AllReady.cons rfl (fun K hK => ?_) AllReady.nil))
    · go_simp
      refine (rules_st w _ _ _ hst).mono ?_
      clear pc0 pc1 pc2 pc3 pc4 pc5 pc6 qc0 qc1 qc2 qc3 qc4 qc5 qc6
      rintro e w1 ⟨rfl, hst⟩
      obtain ⟨pc0, pc1, pc2, pc3, pc4, pc5, pc6⟩ := cells7 hst.p
      obtain ⟨qc0, qc1, qc2, qc3, qc4, qc5, qc6⟩ := cells7 hst.q
      refine hK _ _ ?_
      clear hK K
      refine wpAny_ready (rs := [10, 13]) (by kernel_rfl) (by simp) ?_
      refine AllReady.cons rfl (fun K hK => ?_) (AllReady.cons rfl (fun K hK => ?_) AllReady.nil)
      · go_simp
        refine hK _ _ ?_
        clear hK K
        refine wpAny_ready (rs := [11, 13]) (by kernel_rfl) (by simp) ?_
        refine AllReady.cons rfl (fun K hK => ?_) (AllReady.cons rfl (fun K hK => ?_) AllReady.nil)
        · go_simp
          refine (class_st p A5 c5 A6 c6 w _ _ _ rp hst).mono ?_
          clear pc0 pc1 pc2 pc3 pc4 pc5 pc6 qc0 qc1 qc2 qc3 qc4 qc5 qc6
          rintro e w1 ⟨rfl, hst⟩
          obtain ⟨pc0, pc1, pc2, pc3, pc4, pc5, pc6⟩ := cells7 hst.p
          obtain ⟨qc0, qc1, qc2, qc3, qc4, qc5, qc6⟩ := cells7 hst.q
          refine hK _ _ ?_
          clear hK K
          refine wpAny_ready (rs := [12, 13]) (by kernel_rfl) (by simp) ?_
          refine AllReady.cons rfl (fun K hK => ?_) (AllReady.cons rfl (fun K hK => ?_) AllReady.nil)
          · go_simp
            refine hK _ _ ?_
            clear hK K
            refine wpAny_ready (rs := [13]) (by kernel_rfl) (by simp) ?_
            refine AllReady.cons rfl (fun K hK => ?_) AllReady.nil
            go_simp
            refine hK _ _ ?_
            clear hK K
            refine wpAny_ready (rs := [14]) (by kernel_rfl) (by simp) ?_
            refine AllReady.cons rfl (fun K hK => ?_) AllReady.nil
            go_simp
            refine (class_st q B5 d5 B6 d6 w _ _ _ rq hst).mono ?_
            clear pc0 pc1 pc2 pc3 pc4 pc5 pc6 qc0 qc1 qc2 qc3 qc4 qc5 qc6
            rintro e w1 ⟨rfl, hst⟩
            obtain ⟨pc0, pc1, pc2, pc3, pc4, pc5, pc6⟩ := cells7 hst.p
            obtain ⟨qc0, qc1, qc2, qc3, qc4, qc5, qc6⟩ := cells7 hst.q
            refine hK _ _ ?_
            clear hK K
            refine wpAny_at (l' := #[true, true, true, true, true, true, true, true, true, true, true, true, true, true, true, false, false, false, false, false, false, false, false, false, false, false, false, false, false]) (by kernel_rfl) ?_
            exact tail _ hst
          · go_simp
            refine hK _ _ ?_
            clear hK K
            refine wpAny_ready (rs := [12, 14]) (by kernel_rfl) (by simp) ?_
            refine AllReady.cons rfl (fun K hK => ?_) (AllReady.cons rfl (fun K hK => ?_) AllReady.nil)
            · go_simp
              refine hK _ _ ?_
              clear hK K
              refine wpAny_ready (rs := [14]) (by kernel_rfl) (by simp) ?_
              refine AllReady.cons rfl (fun K hK => ?_) AllReady.nil
              go_simp
              refine (class_st q B5 d5 B6 d6 w _ _ _ rq hst).mono ?_
              clear pc0 pc1 pc2 pc3 pc4 pc5 pc6 qc0 qc1 qc2 qc3 qc4 qc5 qc6
              rintro e w1 ⟨rfl, hst⟩
              obtain ⟨pc0, pc1, pc2, pc3, pc4, pc5, pc6⟩ := cells7 hst.p
              obtain ⟨qc0, qc1, qc2, qc3, qc4, qc5, qc6⟩ := cells7 hst.q
              refine hK _ _ ?_
              clear hK K
              refine wpAny_at (l' := #[true, true, true, true, true, true, true, true, true, true, true, true, true, true, true, false, false, false, false, false, false, false, false, false, false, false, false, false, false]) (by kernel_rfl) ?_
              exact tail _ hst
            · go_simp
              refine (class_st q B5 d5 B6 d6 w _ _ _ rq hst).mono ?_
              clear pc0 pc1 pc2 pc3 pc4 pc5 pc6 qc0 qc1 qc2 qc3 qc4 qc5 qc6
              rintro e w1 ⟨rfl, hst⟩
              obtain ⟨pc0, pc1, pc2, pc3, pc4, pc5, pc6⟩ := cells7 hst.p
              obtain ⟨qc0, qc1, qc2, qc3, qc4, qc5, qc6⟩ := cells7 hst.q
              refine hK _ _ ?_
              clear hK K
              refine wpAny_ready (rs := [12]) (by kernel_rfl) (by simp) ?_
              refine AllReady.cons rfl (fun K hK => ?_) AllReady.nil
              go_simp
              refine hK _ _ ?_
              clear hK K
              refine wpAny_at (l' := #[true, true, true, true, true, true, true, true, true, true, true, true, true, true, true, false, false, false, false, false, false, false, false, false, false, false, false, false, false]) (by kernel_rfl) ?_
              exact tail _ hst
        · go_simp
          refine hK _ _ ?_
          clear hK K
          refine wpAny_ready (rs := [11]) (by kernel_rfl) (by simp) ?_
          refine AllReady.cons rfl (fun K hK => ?_) AllReady.nil
          go_simp
          refine (class_st p A5 c5 A6 c6 w _ _ _ rp hst).mono ?_
          clear pc0 pc1 pc2 pc3 pc4 pc5 pc6 qc0 qc1 qc2 qc3 qc4 qc5 qc6
          rintro e w1 ⟨rfl, hst⟩
          obtain ⟨pc0, pc1, pc2, pc3, pc4, pc5, pc6⟩ := cells7 hst.p
          obtain ⟨qc0, qc1, qc2, qc3, qc4, qc5, qc6⟩ := cells7 hst.q
          refine hK _ _ ?_
          clear hK K
          refine wpAny_ready (rs := [12, 14]) (by kernel_rfl) (by simp) ?_
          refine AllReady.cons rfl (fun K hK => ?_) (AllReady.cons rfl (fun K hK => ?_) AllReady.nil)
          · go_simp
            refine hK _ _ ?_
            clear hK K
            refine wpAny_ready (rs := [14]) (by kernel_rfl) (by simp) ?_
            refine AllReady.cons rfl (fun K hK => ?_) AllReady.nil
            go_simp
            refine (class_st q B5 d5 B6 d6 w _ _ _ rq hst).mono ?_
            clear pc0 pc1 pc2 pc3 pc4 pc5 pc6 qc0 qc1 qc2 qc3 qc4 qc5 qc6
            rintro e w1 ⟨rfl, hst⟩
            obtain ⟨pc0, pc1, pc2, pc3, pc4, pc5, pc6⟩ := cells7 hst.p
            obtain ⟨qc0, qc1, qc2, qc3, qc4, qc5, qc6⟩ := cells7 hst.q
            refine hK _ _ ?_
            clear hK K
            refine wpAny_at (l' := #[true, true, true, true, true, true, true, true, true, true, true, true, true, true, true, false, false, false, false, false, false, false, false, false, false, false, false, false, false]) (by kernel_rfl) ?_
            exact tail _ hst
          · go_simp
            refine (class_st q B5 d5 B6 d6 w _ _ _ rq hst).mono ?_
            clear pc0 pc1 pc2 pc3 pc4 pc5 pc6 qc0 qc1 qc2 qc3 qc4 qc5 qc6
            rintro e w1 ⟨rfl, hst⟩
            obtain ⟨pc0, pc1, pc2, pc3, pc4, pc5, pc6⟩ := cells7 hst.p
            obtain ⟨qc0, qc1, qc2, qc3, qc4, qc5, qc6⟩ := cells7 hst.q
            refine hK _ _ ?_
            clear hK K
            refine wpAny_ready (rs := [12]) (by kernel_rfl) (by simp) ?_
            refine AllReady.cons rfl (fun K hK => ?_) AllReady.nil
            go_simp
            refine hK _ _ ?_
            clear hK K
            refine wpAny_at (l' := #[true, true, true, true, true, true, true, true, true, true, true, true, true, true, true, false, false, false, false, false, false, false, false, false, false, false, false, false, false]) (by kernel_rfl) ?_
            exact tail _ hst
      · go_simp
        refine hK _ _ ?_
        clear hK K
        refine wpAny_ready (rs := [10]) (by kernel_rfl) (by simp) ?_
        refine AllReady.cons rfl (fun K hK => ?_) AllReady.nil
        go_simp
        refine hK _ _ ?_
        clear hK K
        refine wpAny_ready (rs := [11]) (by kernel_rfl) (by simp) ?_
        refine AllReady.cons rfl (fun K hK => ?_) AllReady.nil
        go_simp
        refine (class_st p A5 c5 A6 c6 w _ _ _ rp hst).mono ?_
        clear pc0 pc1 pc2 pc3 pc4 pc5 pc6 qc0 qc1 qc2 qc3 qc4 qc5 qc6
        rintro e w1 ⟨rfl, hst⟩
        obtain ⟨pc0, pc1, pc2, pc3, pc4, pc5, pc6⟩ := cells7 hst.p
        obtain ⟨qc0, qc1, qc2, qc3, qc4, qc5, qc6⟩ := cells7 hst.q
        refine hK _ _ ?_
        clear hK K
        refine wpAny_ready (rs := [12, 14]) (by kernel_rfl) (by simp) ?_
        refine AllReady.cons rfl (fun K hK => ?_) (AllReady.cons rfl (fun K hK => ?_) AllReady.nil)
        · go_simp
          refine hK _ _ ?_
          clear hK K
          refine wpAny_ready (rs := [14]) (by kernel_rfl) (by simp) ?_
          refine AllReady.cons rfl (fun K hK => ?_) AllReady.nil
          go_simp
          refine (class_st q B5 d5 B6 d6 w _ _ _ rq hst).mono ?_
          clear pc0 pc1 pc2 pc3 pc4 pc5 pc6 qc0 qc1 qc2 qc3 qc4 qc5 qc6
          rintro e w1 ⟨rfl, hst⟩
          obtain ⟨pc0, pc1, pc2, pc3, pc4, pc5, pc6⟩ := cells7 hst.p
          obtain ⟨qc0, qc1, qc2, qc3, qc4, qc5, qc6⟩ := cells7 hst.q
          refine hK _ _ ?_
          clear hK K
          refine wpAny_at (l' := #[true, true, true, true, true, true, true, true, true, true, true, true, true, true, true, false, false, false, false, false, false, false, false, false, false, false, false, false, false]) (by kernel_rfl) ?_
          exact tail _ hst
        · go_simp
          refine (class_st q B5 d5 B6 d6 w _ _ _ rq hst).mono ?_
          clear pc0 pc1 pc2 pc3 pc4 pc5 pc6 qc0 qc1 qc2 qc3 qc4 qc5 qc6
          rintro e w1 ⟨rfl, hst⟩
          obtain ⟨pc0, pc1, pc2, pc3, pc4, pc5, pc6⟩ := cells7 hst.p
          obtain ⟨qc0, qc1, qc2, qc3, qc4, qc5, qc6⟩ := cells7 hst.q
          refine hK _ _ ?_
          clear hK K
          refine wpAny_ready (rs := [12]) (by kernel_rfl) (by simp) ?_
          refine AllReady.cons rfl (fun K hK => ?_) AllReady.nil
          go_simp
          refine hK _ _ ?_
          clear hK K
          refine wpAny_at (l' := #[true, true, true, true, true, true, true, true, true, true, true, true, true, true, true, false, false, false, false, false, false, false, false, false, false, false, false, false, false]) (by kernel_rfl) ?_
          exact tail _ hst
    · go_simp
      refine hK _ _ ?_
      clear hK K
      refine wpAny_ready (rs := [9, 13]) (by kernel_rfl) (by simp) ?_
      refine AllReady.cons rfl (fun K hK => ?_) (AllReady.cons rfl (fun K hK => ?_) AllReady.nil)
      · go_simp
        refine (rules_st w _ _ _ hst).mono ?_
        clear pc0 pc1 pc2 pc3 pc4 pc5 pc6 qc0 qc1 qc2 qc3 qc4 qc5 qc6
        rintro e w1 ⟨rfl, hst⟩
        obtain ⟨pc0, pc1, pc2, pc3, pc4, pc5, pc6⟩ := cells7 hst.p
        obtain ⟨qc0, qc1, qc2, qc3, qc4, qc5, qc6⟩ := cells7 hst.q
        refine hK _ _ ?_
        clear hK K
        refine wpAny_ready (rs := [11, 13]) (by kernel_rfl) (by simp) ?_
        refine AllReady.cons rfl (fun K hK => ?_) (AllReady.cons rfl (fun K hK => ?_) AllReady.nil)
        · go_simp
          refine (class_st p A5 c5 A6 c6 w _ _ _ rp hst).mono ?_
          clear pc0 pc1 pc2 pc3 pc4 pc5 pc6 qc0 qc1 qc2 qc3 qc4 qc5 qc6
          rintro e w1 ⟨rfl, hst⟩
          obtain ⟨pc0, pc1, pc2, pc3, pc4, pc5, pc6⟩ := cells7 hst.p
          obtain ⟨qc0, qc1, qc2, qc3, qc4, qc5, qc6⟩ := cells7 hst.q
          refine hK _ _ ?_
          clear hK K
          refine wpAny_ready (rs := [12, 13]) (by kernel_rfl) (by simp) ?_
          refine AllReady.cons rfl (fun K hK => ?_) (AllReady.cons rfl (fun K hK => ?_) AllReady.nil)
          · go_simp
            refine hK _ _ ?_
            clear hK K
            refine wpAny_ready (rs := [13]) (by kernel_rfl) (by simp) ?_
            refine AllReady.cons rfl (fun K hK => ?_) AllReady.nil
            go_simp
            refine hK _ _ ?_
            clear hK K
            refine wpAny_ready (rs := [14]) (by kernel_rfl) (by simp) ?_
            refine AllReady.cons rfl (fun K hK => ?_) AllReady.nil
            go_simp
            refine (class_st q B5 d5 B6 d6 w _ _ _ rq hst).mono ?_
            clear pc0 pc1 pc2 pc3 pc4 pc5 pc6 qc0 qc1 qc2 qc3 qc4 qc5 qc6
            rintro e w1 ⟨rfl, hst⟩
            obtain ⟨pc0, pc1, pc2, pc3, pc4, pc5, pc6⟩ := cells7 hst.p
            obtain ⟨qc0, qc1, qc2, qc3, qc4, qc5, qc6⟩ := cells7 hst.q
            refine hK _ _ ?_
            clear hK K
            refine wpAny_at (l' := #[true, true, true, true, true, true, true, true, true, true, true, true, true, true, true, false, false, false, false, false, false, false, false, false, false, false, false, false, false]) (by kernel_rfl) ?_
            exact tail _ hst
          · go_simp
            refine hK _ _ ?_
            clear hK K
            refine wpAny_ready (rs := [12, 14]) (by kernel_rfl) (by simp) ?_
            refine AllReady.cons rfl (fun K hK => ?_) (AllReady.cons rfl (fun K hK => ?_) AllReady.nil)
            · go_simp
              refine hK _ _ ?_
              clear hK K
              refine wpAny_ready (rs := [14]) (by kernel_rfl) (by simp) ?_
              refine AllReady.cons rfl (fun K hK => ?_) AllReady.nil
              go_simp
              refine (class_st q B5 d5 B6 d6 w _ _ _ rq hst).mono ?_
              clear pc0 pc1 pc2 pc3 pc4 pc5 pc6 qc0 qc1 qc2 qc3 qc4 qc5 qc6
              rintro e w1 ⟨rfl, hst⟩
              obtain ⟨pc0, pc1, pc2, pc3, pc4, pc5, pc6⟩ := cells7 hst.p
              obtain ⟨qc0, qc1, qc2, qc3, qc4, qc5, qc6⟩ := cells7 hst.q
              refine hK _ _ ?_
              clear hK K
              refine wpAny_at (l' := #[true, true, true, true, true, true, true, true, true, true, true, true, true, true, true, false, false, false, false, false, false, false, false, false, false, false, false, false, false]) (by kernel_rfl) ?_
              exact tail _ hst
            · go_simp
              refine (class_st q B5 d5 B6 d6 w _ _ _ rq hst).mono ?_
              clear pc0 pc1 pc2 pc3 pc4 pc5 pc6 qc0 qc1 qc2 qc3 qc4 qc5 qc6
              rintro e w1 ⟨rfl, hst⟩
              obtain ⟨pc0, pc1, pc2, pc3, pc4, pc5, pc6⟩ := cells7 hst.p
              obtain ⟨qc0, qc1, qc2, qc3, qc4, qc5, qc6⟩ := cells7 hst.q
              refine hK _ _ ?_
              clear hK K
              refine wpAny_ready (rs := [12]) (by kernel_rfl) (by simp) ?_
              refine AllReady.cons rfl (fun K hK => ?_) AllReady.nil
              go_simp
              refine hK _ _ ?_
              clear hK K
              refine wpAny_at (l' := #[true, true, true, true, true, true, true, true, true, true, true, true, true, true, true, false, false, false, false, false, false, false, false, false, false, false, false, false, false]) (by kernel_rfl) ?_
              exact tail _ hst
        · go_simp
          refine hK _ _ ?_
          clear hK K
          refine wpAny_ready (rs := [11]) (by kernel_rfl) (by simp) ?_
          refine AllReady.cons rfl (fun K hK => ?_) AllReady.nil
          go_simp
          refine (class_st p A5 c5 A6 c6 w _ _ _ rp hst).mono ?_
          clear pc0 pc1 pc2 pc3 pc4 pc5 pc6 qc0 qc1 qc2 qc3 qc4 qc5 qc6
          rintro e w1 ⟨rfl, hst⟩
          obtain ⟨pc0, pc1, pc2, pc3, pc4, pc5, pc6⟩ := cells7 hst.p
          obtain ⟨qc0, qc1, qc2, qc3, qc4, qc5, qc6⟩ := cells7 hst.q
          refine hK _ _ ?_
          clear hK K
          refine wpAny_ready (rs := [12, 14]) (by kernel_rfl) (by simp) ?_
          refine AllReady.cons rfl (fun K hK => ?_) (AllReady.cons rfl (fun K hK => ?_) AllReady.nil)
          · go_simp
            refine hK _ _ ?_
            clear hK K
            refine wpAny_ready (rs := [14]) (by kernel_rfl) (by simp) ?_
            refine AllReady.cons rfl (fun K hK => ?_) AllReady.nil
            go_simp
            refine (class_st q B5 d5 B6 d6 w _ _ _ rq hst).mono ?_
            clear pc0 pc1 pc2 pc3 pc4 pc5 pc6 qc0 qc1 qc2 qc3 qc4 qc5 qc6
            rintro e w1 ⟨rfl, hst⟩
            obtain ⟨pc0, pc1, pc2, pc3, pc4, pc5, pc6⟩ := cells7 hst.p
            obtain ⟨qc0, qc1, qc2, qc3, qc4, qc5, qc6⟩ := cells7 hst.q
            refine hK _ _ ?_
            clear hK K
            refine wpAny_at (l' := #[true, true, true, true, true, true, true, true, true, true, true, true, true, true, true, false, false, false, false, false, false, false, false, false, false, false, false, false, false]) (by kernel_rfl) ?_
            exact tail _ hst
          · go_simp
            refine (class_st q B5 d5 B6 d6 w _ _ _ rq hst).mono ?_
            clear pc0 pc1 pc2 pc3 pc4 pc5 pc6 qc0 qc1 qc2 qc3 qc4 qc5 qc6
            rintro e w1 ⟨rfl, hst⟩
            obtain ⟨pc0, pc1, pc2, pc3, pc4, pc5, pc6⟩ := cells7 hst.p
            obtain ⟨qc0, qc1, qc2, qc3, qc4, qc5, qc6⟩ := cells7 hst.q
            refine hK _ _ ?_
            clear hK K
            refine wpAny_ready (rs := [12]) (by kernel_rfl) (by simp) ?_
            refine AllReady.cons rfl (fun K hK => ?_) AllReady.nil
            go_simp
            refine hK _ _ ?_
            clear hK K
            refine wpAny_at (l' := #[true, true, true, true, true, true, true, true, true, true, true, true, true, true, true, false, false, false, false, false, false, false, false, false, false, false, false, false, false]) (by kernel_rfl) ?_
            exact tail _ hst
      · go_simp
        refine hK _ _ ?_
        clear hK K
        refine wpAny_ready (rs := [9]) (by kernel_rfl) (by simp) ?_
        refine AllReady.cons rfl (fun K hK => ?_) AllReady.nil
        go_simp
        refine (rules_st w _ _ _ hst).mono ?_
        clear pc0 pc1 pc2 pc3 pc4 pc5 pc6 qc0 qc1 qc2 qc3 qc4 qc5 qc6
        rintro e w1 ⟨rfl, hst⟩
        obtain ⟨pc0, pc1, pc2, pc3, pc4, pc5, pc6⟩ := cells7 hst.p
        obtain ⟨qc0, qc1, qc2, qc3, qc4, qc5, qc6⟩ := cells7 hst.q
        refine hK _ _ ?_
        clear hK K
        refine wpAny_ready (rs := [11]) (by kernel_rfl) (by simp) ?_
        refine AllReady.cons rfl (fun K hK => ?_) AllReady.nil
        go_simp
        refine (class_st p A5 c5 A6 c6 w _ _ _ rp hst).mono ?_
        clear pc0 pc1 pc2 pc3 pc4 pc5 pc6 qc0 qc1 qc2 qc3 qc4 qc5 qc6
        rintro e w1 ⟨rfl, hst⟩
        obtain ⟨pc0, pc1, pc2, pc3, pc4, pc5, pc6⟩ := cells7 hst.p
        obtain ⟨qc0, qc1, qc2, qc3, qc4, qc5, qc6⟩ := cells7 hst.q
        refine hK _ _ ?_
        clear hK K
        refine wpAny_ready (rs := [12, 14]) (by kernel_rfl) (by simp) ?_
        refine AllReady.cons rfl (fun K hK => ?_) (AllReady.cons rfl (fun K hK => ?_) AllReady.nil)
        · go_simp
          refine hK _ _ ?_
          clear hK K
          refine wpAny_ready (rs := [14]) (by kernel_rfl) (by simp) ?_
          refine AllReady.cons rfl (fun K hK => ?_) AllReady.nil
          go_simp
          refine (class_st q B5 d5 B6 d6 w _ _ _ rq hst).mono ?_
          clear pc0 pc1 pc2 pc3 pc4 pc5 pc6 qc0 qc1 qc2 qc3 qc4 qc5 qc6
          rintro e w1 ⟨rfl, hst⟩
          obtain ⟨pc0, pc1, pc2, pc3, pc4, pc5, pc6⟩ := cells7 hst.p
          obtain ⟨qc0, qc1, qc2, qc3, qc4, qc5, qc6⟩ := cells7 hst.q
          refine hK _ _ ?_
          clear hK K
          refine wpAny_at (l' := #[true, true, true, true, true, true, true, true, true, true, true, true, true, true, true, false, false, false, false, false, false, false, false, false, false, false, false, false, false]) (by kernel_rfl) ?_
          exact tail _ hst
        · go_simp
          refine (class_st q B5 d5 B6 d6 w _ _ _ rq hst).mono ?_
          clear pc0 pc1 pc2 pc3 pc4 pc5 pc6 qc0 qc1 qc2 qc3 qc4 qc5 qc6
          rintro e w1 ⟨rfl, hst⟩
          obtain ⟨pc0, pc1, pc2, pc3, pc4, pc5, pc6⟩ := cells7 hst.p
          obtain ⟨qc0, qc1, qc2, qc3, qc4, qc5, qc6⟩ := cells7 hst.q
          refine hK _ _ ?_
          clear hK K
          refine wpAny_ready (rs := [12]) (by kernel_rfl) (by simp) ?_
          refine AllReady.cons rfl (fun K hK => ?_) AllReady.nil
          go_simp
          refine hK _ _ ?_
          clear hK K
          refine wpAny_at (l' := #[true, true, true, true, true, true, true, true, true, true, true, true, true, true, true, false, false, false, false, false, false, false, false, false, false, false, false, false, false]) (by kernel_rfl) ?_
          exact tail _ hst
    · go_simp
      refine hK _ _ ?_
      clear hK K
      refine wpAny_ready (rs := [9, 10]) (by kernel_rfl) (by simp) ?_
      refine AllReady.cons rfl (fun K hK => ?_) (AllReady.cons rfl (fun K hK => ?_) AllReady.nil)
      · go_simp
        refine (rules_st w _ _ _ hst).mono ?_
        clear pc0 pc1 pc2 pc3 pc4 pc5 pc6 qc0 qc1 qc2 qc3 qc4 qc5 qc6
        rintro e w1 ⟨rfl, hst⟩
        obtain ⟨pc0, pc1, pc2, pc3, pc4, pc5, pc6⟩ := cells7 hst.p
        obtain ⟨qc0, qc1, qc2, qc3, qc4, qc5, qc6⟩ := cells7 hst.q
        refine hK _ _ ?_
        clear hK K
        refine wpAny_ready (rs := [10]) (by kernel_rfl) (by simp) ?_
        refine AllReady.cons rfl (fun K hK => ?_) AllReady.nil
        go_simp
        refine hK _ _ ?_
        clear hK K
        refine wpAny_ready (rs := [11]) (by kernel_rfl) (by simp) ?_
        refine AllReady.cons rfl (fun K hK => ?_) AllReady.nil
        go_simp
        refine (class_st p A5 c5 A6 c6 w _ _ _ rp hst).mono ?_
        clear pc0 pc1 pc2 pc3 pc4 pc5 pc6 qc0 qc1 qc2 qc3 qc4 qc5 qc6
        rintro e w1 ⟨rfl, hst⟩
        obtain ⟨pc0, pc1, pc2, pc3, pc4, pc5, pc6⟩ := cells7 hst.p
        obtain ⟨qc0, qc1, qc2, qc3, qc4, qc5, qc6⟩ := cells7 hst.q
        refine hK _ _ ?_
        clear hK K
        refine wpAny_ready (rs := [12, 14]) (by kernel_rfl) (by simp) ?_
        refine AllReady.cons rfl (fun K hK => ?_) (AllReady.cons rfl (fun K hK => ?_) AllReady.nil)
        · go_simp
          refine hK _ _ ?_
          clear hK K
          refine wpAny_ready (rs := [14]) (by kernel_rfl) (by simp) ?_
          refine AllReady.cons rfl (fun K hK => ?_) AllReady.nil
          go_simp
          refine (class_st q B5 d5 B6 d6 w _ _ _ rq hst).mono ?_
          clear pc0 pc1 pc2 pc3 pc4 pc5 pc6 qc0 qc1 qc2 qc3 qc4 qc5 qc6
          rintro e w1 ⟨rfl, hst⟩
          obtain ⟨pc0, pc1, pc2, pc3, pc4, pc5, pc6⟩ := cells7 hst.p
          obtain ⟨qc0, qc1, qc2, qc3, qc4, qc5, qc6⟩ := cells7 hst.q
          refine hK _ _ ?_
          clear hK K
          refine wpAny_at (l' := #[true, true, true, true, true, true, true, true, true, true, true, true, true, true, true, false, false, false, false, false, false, false, false, false, false, false, false, false, false]) (by kernel_rfl) ?_
          exact tail _ hst
        · go_simp
          refine (class_st q B5 d5 B6 d6 w _ _ _ rq hst).mono ?_
          clear pc0 pc1 pc2 pc3 pc4 pc5 pc6 qc0 qc1 qc2 qc3 qc4 qc5 qc6
          rintro e w1 ⟨rfl, hst⟩
          obtain ⟨pc0, pc1, pc2, pc3, pc4, pc5, pc6⟩ := cells7 hst.p
          obtain ⟨qc0, qc1, qc2, qc3, qc4, qc5, qc6⟩ := cells7 hst.q
          refine hK _ _ ?_
          clear hK K
          refine wpAny_ready (rs := [12]) (by kernel_rfl) (by simp) ?_
          refine AllReady.cons rfl (fun K hK => ?_) AllReady.nil
          go_simp
          refine hK _ _ ?_
          clear hK K
          refine wpAny_at (l' := #[true, true, true, true, true, true, true, true, true, true, true, true, true, true, true, false, false, false, false, false, false, false, false, false, false, false, false, false, false]) (by kernel_rfl) ?_
          exact tail _ hst
      · go_simp
        refine hK _ _ ?_
        clear hK K
        refine wpAny_ready (rs := [9]) (by kernel_rfl) (by simp) ?_
        refine AllReady.cons rfl (fun K hK => ?_) AllReady.nil
        go_simp
        refine (rules_st w _ _ _ hst).mono ?_
        clear pc0 pc1 pc2 pc3 pc4 pc5 pc6 qc0 qc1 qc2 qc3 qc4 qc5 qc6
        rintro e w1 ⟨rfl, hst⟩
        obtain ⟨pc0, pc1, pc2, pc3, pc4, pc5, pc6⟩ := cells7 hst.p
        obtain ⟨qc0, qc1, qc2, qc3, qc4, qc5, qc6⟩ := cells7 hst.q
        refine hK _ _ ?_
        clear hK K
        refine wpAny_ready (rs := [11]) (by kernel_rfl) (by simp) ?_
        refine AllReady.cons rfl (fun K hK => ?_) AllReady.nil
        go_simp
        refine (class_st p A5 c5 A6 c6 w _ _ _ rp hst).mono ?_
        clear pc0 pc1 pc2 pc3 pc4 pc5 pc6 qc0 qc1 qc2 qc3 qc4 qc5 qc6
        rintro e w1 ⟨rfl, hst⟩
        obtain ⟨pc0, pc1, pc2, pc3, pc4, pc5, pc6⟩ := cells7 hst.p
        obtain ⟨qc0, qc1, qc2, qc3, qc4, qc5, qc6⟩ := cells7 hst.q
        refine hK _ _ ?_
        clear hK K
        refine wpAny_ready (rs := [12, 14]) (by kernel_rfl) (by simp) ?_
        refine AllReady.cons rfl (fun K hK => ?_) (AllReady.cons rfl (fun K hK => ?_) AllReady.nil)
        · go_simp
          refine hK _ _ ?_
          clear hK K
          refine wpAny_ready (rs := [14]) (by kernel_rfl) (by simp) ?_
          refine AllReady.cons rfl (fun K hK => ?_) AllReady.nil
          go_simp
          refine (class_st q B5 d5 B6 d6 w _ _ _ rq hst).mono ?_
          clear pc0 pc1 pc2 pc3 pc4 pc5 pc6 qc0 qc1 qc2 qc3 qc4 qc5 qc6
          rintro e w1 ⟨rfl, hst⟩
          obtain ⟨pc0, pc1, pc2, pc3, pc4, pc5, pc6⟩ := cells7 hst.p
          obtain ⟨qc0, qc1, qc2, qc3, qc4, qc5, qc6⟩ := cells7 hst.q
          refine hK _ _ ?_
          clear hK K
          refine wpAny_at (l' := #[true, true, true, true, true, true, true, true, true, true, true, true, true, true, true, false, false, false, false, false, false, false, false, false, false, false, false, false, false]) (by kernel_rfl) ?_
          exact tail _ hst
        · go_simp
          refine (class_st q B5 d5 B6 d6 w _ _ _ rq hst).mono ?_
          clear pc0 pc1 pc2 pc3 pc4 pc5 pc6 qc0 qc1 qc2 qc3 qc4 qc5 qc6
          rintro e w1 ⟨rfl, hst⟩
          obtain ⟨pc0, pc1, pc2, pc3, pc4, pc5, pc6⟩ := cells7 hst.p
          obtain ⟨qc0, qc1, qc2, qc3, qc4, qc5, qc6⟩ := cells7 hst.q
          refine hK _ _ ?_
          clear hK K
          refine wpAny_ready (rs := [12]) (by kernel_rfl) (by simp) ?_
          refine AllReady.cons rfl (fun K hK => ?_) AllReady.nil
          go_simp
          refine hK _ _ ?_
          clear hK K
          refine wpAny_at (l' := #[true, true, true, true, true, true, true, true, true, true, true, true, true, true, true, false, false, false, false, false, false, false, false, false, false, false, false, false, false]) (by kernel_rfl) ?_
          exact tail _ hst
  · clear hst
    intro w1 hst
    obtain ⟨pc0, pc1, pc2, pc3, pc4, pc5, pc6⟩ := cells7 hst.p
    obtain ⟨qc0, qc1, qc2, qc3, qc4, qc5, qc6⟩ := cells7 hst.q
    refine wpAny_ready (rs := [15]) (by kernel_rfl) (by simp) ?_
    refine AllReady.cons rfl (fun K hK => ?_) AllReady.nil
    go_simp
    refine hK _ _ ?_
    clear hK K
    refine wpAny_ready (rs := [16]) (by kernel_rfl) (by simp) ?_
    refine AllReady.cons rfl (fun K hK => ?_) AllReady.nil
    go_simp
    refine (hrule _ hst).mono ?_
    clear pc0 pc1 pc2 pc3 pc4 pc5 pc6 qc0 qc1 qc2 qc3 qc4 qc5 qc6
    rintro e w1 ⟨rfl, hst⟩
    obtain ⟨pc0, pc1, pc2, pc3, pc4, pc5, pc6⟩ := cells7 hst.p
    obtain ⟨qc0, qc1, qc2, qc3, qc4, qc5, qc6⟩ := cells7 hst.q
    refine hK _ _ ?_
    clear hK K
    refine wpAny_ready (rs := [17]) (by kernel_rfl) (by simp) ?_
    refine AllReady.cons rfl (fun K hK => ?_) AllReady.nil
    go_simp
    refine hK _ _ ?_
    clear hK K
    refine wpAny_ready (rs := [18]) (by kernel_rfl) (by simp) ?_
    refine AllReady.cons rfl (fun K hK => ?_) AllReady.nil
    go_simp
    refine hK _ _ ?_
    clear hK K
    refine wpAny_ready (rs := [19]) (by kernel_rfl) (by simp) ?_
    refine AllReady.cons rfl (fun K hK => ?_) AllReady.nil
    go_simp
    refine hK _ _ ?_
    clear hK K
    refine wpAny_ready (rs := [20]) (by kernel_rfl) (by simp) ?_
    refine AllReady.cons rfl (fun K hK => ?_) AllReady.nil
    go_simp
    refine hK _ _ ?_
    clear hK K
    refine wpAny_ready (rs := [21]) (by kernel_rfl) (by simp) ?_
    refine AllReady.cons rfl (fun K hK => ?_) AllReady.nil
    go_simp
    refine (RP2 _ _ _ hst).mono ?_
    clear pc0 pc1 pc2 pc3 pc4 pc5 pc6 qc0 qc1 qc2 qc3 qc4 qc5 qc6
    rintro e w1 ⟨rfl, hst⟩
    obtain ⟨pc0, pc1, pc2, pc3, pc4, pc5, pc6⟩ := cells7 hst.p
    obtain ⟨qc0, qc1, qc2, qc3, qc4, qc5, qc6⟩ := cells7 hst.q
    refine hK _ _ ?_
    clear hK K
    refine wpAny_ready (rs := [22]) (by kernel_rfl) (by simp) ?_
    refine AllReady.cons rfl (fun K hK => ?_) AllReady.nil
    go_simp
    refine hK _ _ ?_
    clear hK K
    refine wpAny_ready (rs := [23]) (by kernel_rfl) (by simp) ?_
    refine AllReady.cons rfl (fun K hK => ?_) AllReady.nil
    go_simp
    refine hK _ _ ?_
    clear hK K
    refine wpAny_ready (rs := [24]) (by kernel_rfl) (by simp) ?_
    refine AllReady.cons rfl (fun K hK => ?_) AllReady.nil
    go_simp
    refine hK _ _ ?_
    clear hK K
    refine wpAny_ready (rs := [25]) (by kernel_rfl) (by simp) ?_
    refine AllReady.cons rfl (fun K hK => ?_) AllReady.nil
    go_simp
    refine hK _ _ ?_
    clear hK K
    refine wpAny_ready (rs := [26]) (by kernel_rfl) (by simp) ?_
    refine AllReady.cons rfl (fun K hK => ?_) AllReady.nil
    go_simp
    refine (RQ2 _ _ _ hst).mono ?_
    clear pc0 pc1 pc2 pc3 pc4 pc5 pc6 qc0 qc1 qc2 qc3 qc4 qc5 qc6
    rintro e w1 ⟨rfl, hst⟩
    obtain ⟨pc0, pc1, pc2, pc3, pc4, pc5, pc6⟩ := cells7 hst.p
    obtain ⟨qc0, qc1, qc2, qc3, qc4, qc5, qc6⟩ := cells7 hst.q
    refine hK _ _ ?_
    clear hK K
    refine wpAny_ready (rs := [27]) (by kernel_rfl) (by simp) ?_
    refine AllReady.cons rfl (fun K hK => ?_) AllReady.nil
    go_simp
    refine hK _ _ ?_
    clear hK K
    refine wpAny_ready (rs := [28]) (by kernel_rfl) (by simp) ?_
    refine AllReady.cons rfl (fun K hK => ?_) AllReady.nil
    go_simp
    refine hK _ _ ?_
    clear hK K
    refine wpAny_done (by kernel_rfl) ?_ _
    obtain ⟨xc0, xc1, xc2, xc3, xc4, xc5, xc6⟩ := cells7 hst.x
    obtain ⟨yc0, yc1, yc2, yc3, yc4, yc5, yc6⟩ := cells7 hst.y
    obtain ⟨pf0, pf1, pf2, pf3, pf4, pf5, pf6⟩ := frozen7 hst.p
    obtain ⟨qf0, qf1, qf2, qf3, qf4, qf5, qf6⟩ := frozen7 hst.q
    obtain ⟨xf0, xf1, xf2, xf3, xf4, xf5, xf6⟩ := frozen7 hst.x
    obtain ⟨yf0, yf1, yf2, yf3, yf4, yf5, yf6⟩ := frozen7 hst.y
    clear RP RQ RP2 RQ2
    clear hrule h70 h69
    go_wp2
    all_goals
      refine bodyPost_ret (ret24 (gx := w.heap.size + 1 + 1) (gy := w.heap.size + 1 + 1 + 1) rfl rfl rfl ?_ ?_) rfl ⟨rfl, ?_⟩
      · exact ((keep7 (by omega) _ _ _ _ _ _ _).trans (set7 hst.x rfl _ _ _ _ _ _ _))
      · exact (set7 ((keep7 (by omega) _ _ _ _ _ _ _).trans hst.y) rfl _ _ _ _ _ _ _)
      · exact (below7 (below7 hst.below (by omega) _ _ _ _ _ _ _) (by omega) _ _ _ _ _ _ _)
set_option maxHeartbeats 8000000 in
set_option maxRecDepth 100000 in
theorem comm_yes (p q p2 q2 : S24) (A5 : Option Addr) (c5 : Nat) (A6 : Option Addr) (c6 : Nat) (B5 : Option Addr) (d5 : Nat) (B6 : Option Addr) (d6 : Nat) (w : World) (hp : Okp p) (rp : Rd w p A5 c5 A6 c6) (b1 : primB p = true) (hq : Okp q) (rq : Rd w q B5 d5 B6 d6) (b2 : primB q = true) (hp2 : Okp p2) (rp2 : Rd w p2 A5 c5 A6 c6) (b3 : primB p2 = true) (hq2 : Okp q2) (rq2 : Rd w q2 B5 d5 B6 d6) (b4 : primB q2 = true) (n : Nat) (en : ∀ args w, (callFunc n args).run Tryd.prog w = .ok (.enter n args) w) (row : Array Value) (h70 : ∀ W, (Instr.index 70 (.agg rulesV) (.int .i64 (classS p))).run Tryd.prog W = .ok (.agg row) W) (h69 : ∀ W, (Instr.index 69 (.agg row) (.int .i64 (classS q))).run Tryd.prog W = .ok (.func (.func n) #[] #[]) W)
    (hrule : ∀ W, St w #[.int .i64 p.f0, .string p.f1, .string p.f2, .string p.f3, .int .i64 p.f4, .slice A5 p.f5.length c5, .slice A6 p.f6.length c6] #[.int .i64 q.f0, .string q.f1, .string q.f2, .string q.f3, .int .i64 q.f4, .slice B5 q.f5.length d5, .slice B6 q.f6.length d6] W → Calls Tryd.prog n #[.pointer (some ⟨w.heap.size, 0, none⟩), .pointer (some ⟨w.heap.size + 1, 0, none⟩)] W fun e W' => e = .returned (.bool true) ∧ St w #[.int .i64 p2.f0, .string p2.f1, .string p2.f2, .string p2.f3, .int .i64 p2.f4, .slice A5 p2.f5.length c5, .slice A6 p2.f6.length c6] #[.int .i64 q2.f0, .string q2.f1, .string q2.f2, .string q2.f3, .int .i64 q2.f4, .slice B5 q2.f5.length d5, .slice B6 q2.f6.length d6] W') :
    Calls Tryd.prog 24 #[.agg #[.int .i64 p.f0, .string p.f1, .string p.f2, .string p.f3, .int .i64 p.f4, .slice A5 p.f5.length c5, .slice A6 p.f6.length c6], .agg #[.int .i64 q.f0, .string q.f1, .string q.f2, .string q.f3, .int .i64 q.f4, .slice B5 q.f5.length d5, .slice B6 q.f6.length d6]] w fun e w' => e = .returned (.tuple #[.agg #[.int .i64 q2.f0, .string q2.f1, .string q2.f2, .string q2.f3, .int .i64 q2.f4, .slice B5 q2.f5.length d5, .slice B6 q2.f6.length d6], .agg #[.int .i64 p2.f0, .string p2.f1, .string p2.f2, .string p2.f3, .int .i64 p2.f4, .slice A5 p2.f5.length c5, .slice A6 p2.f6.length c6], .bool true]) ∧ Below w.heap.size w w' := by
  have RP : ∀ cp cq W, St w cp cq W → Calls Tryd.prog 19 #[.agg #[.int .i64 p.f0, .string p.f1, .string p.f2, .string p.f3, .int .i64 p.f4, .slice A5 p.f5.length c5, .slice A6 p.f6.length c6]] W fun e W' => e = .returned (.bool true) ∧ St w cp cq W' := fun cp cq W h => by
    have h2 := right_st p A5 c5 A6 c6 w W cp cq hp rp h
    rwa [b1] at h2
  have RQ : ∀ cp cq W, St w cp cq W → Calls Tryd.prog 19 #[.agg #[.int .i64 q.f0, .string q.f1, .string q.f2, .string q.f3, .int .i64 q.f4, .slice B5 q.f5.length d5, .slice B6 q.f6.length d6]] W fun e W' => e = .returned (.bool true) ∧ St w cp cq W' := fun cp cq W h => by
    have h2 := right_st q B5 d5 B6 d6 w W cp cq hq rq h
    rwa [b2] at h2
  have RP2 : ∀ cp cq W, St w cp cq W → Calls Tryd.prog 19 #[.agg #[.int .i64 p2.f0, .string p2.f1, .string p2.f2, .string p2.f3, .int .i64 p2.f4, .slice A5 p2.f5.length c5, .slice A6 p2.f6.length c6]] W fun e W' => e = .returned (.bool true) ∧ St w cp cq W' := fun cp cq W h => by
    have h2 := right_st p2 A5 c5 A6 c6 w W cp cq hp2 rp2 h
    rwa [b3] at h2
  have RQ2 : ∀ cp cq W, St w cp cq W → Calls Tryd.prog 19 #[.agg #[.int .i64 q2.f0, .string q2.f1, .string q2.f2, .string q2.f3, .int .i64 q2.f4, .slice B5 q2.f5.length d5, .slice B6 q2.f6.length d6]] W fun e W' => e = .returned (.bool true) ∧ St w cp cq W' := fun cp cq W h => by
    have h2 := right_st q2 B5 d5 B6 d6 w W cp cq hq2 rq2 h
    rwa [b4] at h2
  go_enter Tryd.func24, Tryd.ntmps24
  go_wp2
  refine wp_region_any (by kernel_rfl) ?_
  change wpAny _ _ _ _ _ _ _ (World.drew _)
  have hs0 := (St.start w #[.int .i64 p.f0, .string p.f1, .string p.f2, .string p.f3, .int .i64 p.f4, .slice A5 p.f5.length c5, .slice A6 p.f6.length c6] #[.int .i64 q.f0, .string q.f1, .string q.f2, .string q.f3, .int .i64 q.f4, .slice B5 q.f5.length d5, .slice B6 q.f6.length d6]).drew
  apply cutG (S := St w #[.int .i64 p.f0, .string p.f1, .string p.f2, .string p.f3, .int .i64 p.f4, .slice A5 p.f5.length c5, .slice A6 p.f6.length c6] #[.int .i64 q.f0, .string q.f1, .string q.f2, .string q.f3, .int .i64 q.f4, .slice B5 q.f5.length d5, .slice B6 q.f6.length d6])
  · exact fun tail => tail _ hs0
  intro w1 hst
  clear hs0
  apply cutG (S := St w #[.int .i64 p.f0, .string p.f1, .string p.f2, .string p.f3, .int .i64 p.f4, .slice A5 p.f5.length c5, .slice A6 p.f6.length c6] #[.int .i64 q.f0, .string q.f1, .string q.f2, .string q.f3, .int .i64 q.f4, .slice B5 q.f5.length d5, .slice B6 q.f6.length d6])
  · intro tail
    obtain ⟨pc0, pc1, pc2, pc3, pc4, pc5, pc6⟩ := cells7 hst.p
    obtain ⟨qc0, qc1, qc2, qc3, qc4, qc5, qc6⟩ := cells7 hst.q
    refine wpAny_ready (rs := [0]) (by kernel_rfl) (by simp) ?_
    refine AllReady.cons rfl (fun K hK => ?_) AllReady.nil
    go_simp
    refine hK _ _ ?_
    clear hK K
    refine wpAny_ready (rs := [1]) (by kernel_rfl) (by simp) ?_
    refine AllReady.cons rfl (fun K hK => ?_) AllReady.nil
    go_simp
    refine (RP _ _ _ hst).mono ?_
    clear pc0 pc1 pc2 pc3 pc4 pc5 pc6 qc0 qc1 qc2 qc3 qc4 qc5 qc6
    rintro e w1 ⟨rfl, hst⟩
    obtain ⟨pc0, pc1, pc2, pc3, pc4, pc5, pc6⟩ := cells7 hst.p
    obtain ⟨qc0, qc1, qc2, qc3, qc4, qc5, qc6⟩ := cells7 hst.q
    refine hK _ _ ?_
    clear hK K
    refine wpAny_ready (rs := [2]) (by kernel_rfl) (by simp) ?_
    refine AllReady.cons rfl (fun K hK => ?_) AllReady.nil
    go_simp
    refine hK _ _ ?_
    clear hK K
    refine wpAny_ready (rs := [3]) (by kernel_rfl) (by simp) ?_
    refine AllReady.cons rfl (fun K hK => ?_) AllReady.nil
    go_simp
    refine hK _ _ ?_
    clear hK K
    refine wpAny_ready (rs := [4]) (by kernel_rfl) (by simp) ?_
    refine AllReady.cons rfl (fun K hK => ?_) AllReady.nil
    go_simp
    refine hK _ _ ?_
    clear hK K
    refine wpAny_ready (rs := [5]) (by kernel_rfl) (by simp) ?_
    refine AllReady.cons rfl (fun K hK => ?_) AllReady.nil
    go_simp
    refine (RQ _ _ _ hst).mono ?_
    clear pc0 pc1 pc2 pc3 pc4 pc5 pc6 qc0 qc1 qc2 qc3 qc4 qc5 qc6
    rintro e w1 ⟨rfl, hst⟩
    obtain ⟨pc0, pc1, pc2, pc3, pc4, pc5, pc6⟩ := cells7 hst.p
    obtain ⟨qc0, qc1, qc2, qc3, qc4, qc5, qc6⟩ := cells7 hst.q
    refine hK _ _ ?_
    clear hK K
    refine wpAny_ready (rs := [6]) (by kernel_rfl) (by simp) ?_
    refine AllReady.cons rfl (fun K hK => ?_) AllReady.nil
    go_simp
    refine hK _ _ ?_
    clear hK K
    refine wpAny_ready (rs := [7]) (by kernel_rfl) (by simp) ?_
    refine AllReady.cons rfl (fun K hK => ?_) AllReady.nil
    go_simp
    refine hK _ _ ?_
    clear hK K
    refine wpAny_ready (rs := [8]) (by kernel_rfl) (by simp) ?_
    refine AllReady.cons rfl (fun K hK => ?_) AllReady.nil
    go_simp
    refine hK _ _ ?_
    clear hK K
    refine wpAny_ready (rs := [9, 10, 13]) (by kernel_rfl) (by simp) ?_
    refine AllReady.cons rfl (fun K hK => ?_) (AllReady.cons rfl (fun K hK => ?_) (AllReady.cons rfl (fun K hK => ?_) AllReady.nil))
    · go_simp
      refine (rules_st w _ _ _ hst).mono ?_
      clear pc0 pc1 pc2 pc3 pc4 pc5 pc6 qc0 qc1 qc2 qc3 qc4 qc5 qc6
      rintro e w1 ⟨rfl, hst⟩
      obtain ⟨pc0, pc1, pc2, pc3, pc4, pc5, pc6⟩ := cells7 hst.p
      obtain ⟨qc0, qc1, qc2, qc3, qc4, qc5, qc6⟩ := cells7 hst.q
      refine hK _ _ ?_
      clear hK K
      refine wpAny_ready (rs := [10, 13]) (by kernel_rfl) (by simp) ?_
      refine AllReady.cons rfl (fun K hK => ?_) (AllReady.cons rfl (fun K hK => ?_) AllReady.nil)
      · go_simp
        refine hK _ _ ?_
        clear hK K
        refine wpAny_ready (rs := [11, 13]) (by kernel_rfl) (by simp) ?_
        refine AllReady.cons rfl (fun K hK => ?_) (AllReady.cons rfl (fun K hK => ?_) AllReady.nil)
        · go_simp
          refine (class_st p A5 c5 A6 c6 w _ _ _ rp hst).mono ?_
          clear pc0 pc1 pc2 pc3 pc4 pc5 pc6 qc0 qc1 qc2 qc3 qc4 qc5 qc6
          rintro e w1 ⟨rfl, hst⟩
          obtain ⟨pc0, pc1, pc2, pc3, pc4, pc5, pc6⟩ := cells7 hst.p
          obtain ⟨qc0, qc1, qc2, qc3, qc4, qc5, qc6⟩ := cells7 hst.q
          refine hK _ _ ?_
          clear hK K
          refine wpAny_ready (rs := [12, 13]) (by kernel_rfl) (by simp) ?_
          refine AllReady.cons rfl (fun K hK => ?_) (AllReady.cons rfl (fun K hK => ?_) AllReady.nil)
          · go_simp
            refine hK _ _ ?_
            clear hK K
            refine wpAny_ready (rs := [13]) (by kernel_rfl) (by simp) ?_
            refine AllReady.cons rfl (fun K hK => ?_) AllReady.nil
            go_simp
            refine hK _ _ ?_
            clear hK K
            refine wpAny_ready (rs := [14]) (by kernel_rfl) (by simp) ?_
            refine AllReady.cons rfl (fun K hK => ?_) AllReady.nil
            go_simp
            refine (class_st q B5 d5 B6 d6 w _ _ _ rq hst).mono ?_
            clear pc0 pc1 pc2 pc3 pc4 pc5 pc6 qc0 qc1 qc2 qc3 qc4 qc5 qc6
            rintro e w1 ⟨rfl, hst⟩
            obtain ⟨pc0, pc1, pc2, pc3, pc4, pc5, pc6⟩ := cells7 hst.p
            obtain ⟨qc0, qc1, qc2, qc3, qc4, qc5, qc6⟩ := cells7 hst.q
            refine hK _ _ ?_
            clear hK K
            refine wpAny_at (l' := #[true, true, true, true, true, true, true, true, true, true, true, true, true, true, true, false, false, false, false, false, false, false, false, false, false, false, false, false, false]) (by kernel_rfl) ?_
            exact tail _ hst
          · go_simp
            refine hK _ _ ?_
            clear hK K
            refine wpAny_ready (rs := [12, 14]) (by kernel_rfl) (by simp) ?_
            refine AllReady.cons rfl (fun K hK => ?_) (AllReady.cons rfl (fun K hK => ?_) AllReady.nil)
            · go_simp
              refine hK _ _ ?_
              clear hK K
              refine wpAny_ready (rs := [14]) (by kernel_rfl) (by simp) ?_
              refine AllReady.cons rfl (fun K hK => ?_) AllReady.nil
              go_simp
              refine (class_st q B5 d5 B6 d6 w _ _ _ rq hst).mono ?_
              clear pc0 pc1 pc2 pc3 pc4 pc5 pc6 qc0 qc1 qc2 qc3 qc4 qc5 qc6
              rintro e w1 ⟨rfl, hst⟩
              obtain ⟨pc0, pc1, pc2, pc3, pc4, pc5, pc6⟩ := cells7 hst.p
              obtain ⟨qc0, qc1, qc2, qc3, qc4, qc5, qc6⟩ := cells7 hst.q
              refine hK _ _ ?_
              clear hK K
              refine wpAny_at (l' := #[true, true, true, true, true, true, true, true, true, true, true, true, true, true, true, false, false, false, false, false, false, false, false, false, false, false, false, false, false]) (by kernel_rfl) ?_
              exact tail _ hst
            · go_simp
              refine (class_st q B5 d5 B6 d6 w _ _ _ rq hst).mono ?_
              clear pc0 pc1 pc2 pc3 pc4 pc5 pc6 qc0 qc1 qc2 qc3 qc4 qc5 qc6
              rintro e w1 ⟨rfl, hst⟩
              obtain ⟨pc0, pc1, pc2, pc3, pc4, pc5, pc6⟩ := cells7 hst.p
              obtain ⟨qc0, qc1, qc2, qc3, qc4, qc5, qc6⟩ := cells7 hst.q
              refine hK _ _ ?_
              clear hK K
              refine wpAny_ready (rs := [12]) (by kernel_rfl) (by simp) ?_
              refine AllReady.cons rfl (fun K hK => ?_) AllReady.nil
              go_simp
              refine hK _ _ ?_
              clear hK K
              refine wpAny_at (l' := #[true, true, true, true, true, true, true, true, true, true, true, true, true, true, true, false, false, false, false, false, false, false, false, false, false, false, false, false, false]) (by kernel_rfl) ?_
              exact tail _ hst
        · go_simp
          refine hK _ _ ?_
          clear hK K
          refine wpAny_ready (rs := [11]) (by kernel_rfl) (by simp) ?_
          refine AllReady.cons rfl (fun K hK => ?_) AllReady.nil
          go_simp
          refine (class_st p A5 c5 A6 c6 w _ _ _ rp hst).mono ?_
          clear pc0 pc1 pc2 pc3 pc4 pc5 pc6 qc0 qc1 qc2 qc3 qc4 qc5 qc6
          rintro e w1 ⟨rfl, hst⟩
          obtain ⟨pc0, pc1, pc2, pc3, pc4, pc5, pc6⟩ := cells7 hst.p
          obtain ⟨qc0, qc1, qc2, qc3, qc4, qc5, qc6⟩ := cells7 hst.q
          refine hK _ _ ?_
          clear hK K
          refine wpAny_ready (rs := [12, 14]) (by kernel_rfl) (by simp) ?_
          refine AllReady.cons rfl (fun K hK => ?_) (AllReady.cons rfl (fun K hK => ?_) AllReady.nil)
          · go_simp
            refine hK _ _ ?_
            clear hK K
            refine wpAny_ready (rs := [14]) (by kernel_rfl) (by simp) ?_
            refine AllReady.cons rfl (fun K hK => ?_) AllReady.nil
            go_simp
            refine (class_st q B5 d5 B6 d6 w _ _ _ rq hst).mono ?_
            clear pc0 pc1 pc2 pc3 pc4 pc5 pc6 qc0 qc1 qc2 qc3 qc4 qc5 qc6
            rintro e w1 ⟨rfl, hst⟩
            obtain ⟨pc0, pc1, pc2, pc3, pc4, pc5, pc6⟩ := cells7 hst.p
            obtain ⟨qc0, qc1, qc2, qc3, qc4, qc5, qc6⟩ := cells7 hst.q
            refine hK _ _ ?_
            clear hK K
            refine wpAny_at (l' := #[true, true, true, true, true, true, true, true, true, true, true, true, true, true, true, false, false, false, false, false, false, false, false, false, false, false, false, false, false]) (by kernel_rfl) ?_
            exact tail _ hst
          · go_simp
            refine (class_st q B5 d5 B6 d6 w _ _ _ rq hst).mono ?_
            clear pc0 pc1 pc2 pc3 pc4 pc5 pc6 qc0 qc1 qc2 qc3 qc4 qc5 qc6
            rintro e w1 ⟨rfl, hst⟩
            obtain ⟨pc0, pc1, pc2, pc3, pc4, pc5, pc6⟩ := cells7 hst.p
            obtain ⟨qc0, qc1, qc2, qc3, qc4, qc5, qc6⟩ := cells7 hst.q
            refine hK _ _ ?_
            clear hK K
            refine wpAny_ready (rs := [12]) (by kernel_rfl) (by simp) ?_
            refine AllReady.cons rfl (fun K hK => ?_) AllReady.nil
            go_simp
            refine hK _ _ ?_
            clear hK K
            refine wpAny_at (l' := #[true, true, true, true, true, true, true, true, true, true, true, true, true, true, true, false, false, false, false, false, false, false, false, false, false, false, false, false, false]) (by kernel_rfl) ?_
            exact tail _ hst
      · go_simp
        refine hK _ _ ?_
        clear hK K
        refine wpAny_ready (rs := [10]) (by kernel_rfl) (by simp) ?_
        refine AllReady.cons rfl (fun K hK => ?_) AllReady.nil
        go_simp
        refine hK _ _ ?_
        clear hK K
        refine wpAny_ready (rs := [11]) (by kernel_rfl) (by simp) ?_
        refine AllReady.cons rfl (fun K hK => ?_) AllReady.nil
        go_simp
        refine (class_st p A5 c5 A6 c6 w _ _ _ rp hst).mono ?_
        clear pc0 pc1 pc2 pc3 pc4 pc5 pc6 qc0 qc1 qc2 qc3 qc4 qc5 qc6
        rintro e w1 ⟨rfl, hst⟩
        obtain ⟨pc0, pc1, pc2, pc3, pc4, pc5, pc6⟩ := cells7 hst.p
        obtain ⟨qc0, qc1, qc2, qc3, qc4, qc5, qc6⟩ := cells7 hst.q
        refine hK _ _ ?_
        clear hK K
        refine wpAny_ready (rs := [12, 14]) (by kernel_rfl) (by simp) ?_
        refine AllReady.cons rfl (fun K hK => ?_) (AllReady.cons rfl (fun K hK => ?_) AllReady.nil)
        · go_simp
          refine hK _ _ ?_
          clear hK K
          refine wpAny_ready (rs := [14]) (by kernel_rfl) (by simp) ?_
          refine AllReady.cons rfl (fun K hK => ?_) AllReady.nil
          go_simp
          refine (class_st q B5 d5 B6 d6 w _ _ _ rq hst).mono ?_
          clear pc0 pc1 pc2 pc3 pc4 pc5 pc6 qc0 qc1 qc2 qc3 qc4 qc5 qc6
          rintro e w1 ⟨rfl, hst⟩
          obtain ⟨pc0, pc1, pc2, pc3, pc4, pc5, pc6⟩ := cells7 hst.p
          obtain ⟨qc0, qc1, qc2, qc3, qc4, qc5, qc6⟩ := cells7 hst.q
          refine hK _ _ ?_
          clear hK K
          refine wpAny_at (l' := #[true, true, true, true, true, true, true, true, true, true, true, true, true, true, true, false, false, false, false, false, false, false, false, false, false, false, false, false, false]) (by kernel_rfl) ?_
          exact tail _ hst
        · go_simp
          refine (class_st q B5 d5 B6 d6 w _ _ _ rq hst).mono ?_
          clear pc0 pc1 pc2 pc3 pc4 pc5 pc6 qc0 qc1 qc2 qc3 qc4 qc5 qc6
          rintro e w1 ⟨rfl, hst⟩
          obtain ⟨pc0, pc1, pc2, pc3, pc4, pc5, pc6⟩ := cells7 hst.p
          obtain ⟨qc0, qc1, qc2, qc3, qc4, qc5, qc6⟩ := cells7 hst.q
          refine hK _ _ ?_
          clear hK K
          refine wpAny_ready (rs := [12]) (by kernel_rfl) (by simp) ?_
          refine AllReady.cons rfl (fun K hK => ?_) AllReady.nil
          go_simp
          refine hK _ _ ?_
          clear hK K
          refine wpAny_at (l' := #[true, true, true, true, true, true, true, true, true, true, true, true, true, true, true, false, false, false, false, false, false, false, false, false, false, false, false, false, false]) (by kernel_rfl) ?_
          exact tail _ hst
    · go_simp
      refine hK _ _ ?_
      clear hK K
      refine wpAny_ready (rs := [9, 13]) (by kernel_rfl) (by simp) ?_
      refine AllReady.cons rfl (fun K hK => ?_) (AllReady.cons rfl (fun K hK => ?_) AllReady.nil)
      · go_simp
        refine (rules_st w _ _ _ hst).mono ?_
        clear pc0 pc1 pc2 pc3 pc4 pc5 pc6 qc0 qc1 qc2 qc3 qc4 qc5 qc6
        rintro e w1 ⟨rfl, hst⟩
        obtain ⟨pc0, pc1, pc2, pc3, pc4, pc5, pc6⟩ := cells7 hst.p
        obtain ⟨qc0, qc1, qc2, qc3, qc4, qc5, qc6⟩ := cells7 hst.q
        refine hK _ _ ?_
        clear hK K
        refine wpAny_ready (rs := [11, 13]) (by kernel_rfl) (by simp) ?_
        refine AllReady.cons rfl (fun K hK => ?_) (AllReady.cons rfl (fun K hK => ?_) AllReady.nil)
        · go_simp
          refine (class_st p A5 c5 A6 c6 w _ _ _ rp hst).mono ?_
          clear pc0 pc1 pc2 pc3 pc4 pc5 pc6 qc0 qc1 qc2 qc3 qc4 qc5 qc6
          rintro e w1 ⟨rfl, hst⟩
          obtain ⟨pc0, pc1, pc2, pc3, pc4, pc5, pc6⟩ := cells7 hst.p
          obtain ⟨qc0, qc1, qc2, qc3, qc4, qc5, qc6⟩ := cells7 hst.q
          refine hK _ _ ?_
          clear hK K
          refine wpAny_ready (rs := [12, 13]) (by kernel_rfl) (by simp) ?_
          refine AllReady.cons rfl (fun K hK => ?_) (AllReady.cons rfl (fun K hK => ?_) AllReady.nil)
          · go_simp
            refine hK _ _ ?_
            clear hK K
            refine wpAny_ready (rs := [13]) (by kernel_rfl) (by simp) ?_
            refine AllReady.cons rfl (fun K hK => ?_) AllReady.nil
            go_simp
            refine hK _ _ ?_
            clear hK K
            refine wpAny_ready (rs := [14]) (by kernel_rfl) (by simp) ?_
            refine AllReady.cons rfl (fun K hK => ?_) AllReady.nil
            go_simp
            refine (class_st q B5 d5 B6 d6 w _ _ _ rq hst).mono ?_
            clear pc0 pc1 pc2 pc3 pc4 pc5 pc6 qc0 qc1 qc2 qc3 qc4 qc5 qc6
            rintro e w1 ⟨rfl, hst⟩
            obtain ⟨pc0, pc1, pc2, pc3, pc4, pc5, pc6⟩ := cells7 hst.p
            obtain ⟨qc0, qc1, qc2, qc3, qc4, qc5, qc6⟩ := cells7 hst.q
            refine hK _ _ ?_
            clear hK K
            refine wpAny_at (l' := #[true, true, true, true, true, true, true, true, true, true, true, true, true, true, true, false, false, false, false, false, false, false, false, false, false, false, false, false, false]) (by kernel_rfl) ?_
            exact tail _ hst
          · go_simp
            refine hK _ _ ?_
            clear hK K
            refine wpAny_ready (rs := [12, 14]) (by kernel_rfl) (by simp) ?_
            refine AllReady.cons rfl (fun K hK => ?_) (AllReady.cons rfl (fun K hK => ?_) AllReady.nil)
            · go_simp
              refine hK _ _ ?_
              clear hK K
              refine wpAny_ready (rs := [14]) (by kernel_rfl) (by simp) ?_
              refine AllReady.cons rfl (fun K hK => ?_) AllReady.nil
              go_simp
              refine (class_st q B5 d5 B6 d6 w _ _ _ rq hst).mono ?_
              clear pc0 pc1 pc2 pc3 pc4 pc5 pc6 qc0 qc1 qc2 qc3 qc4 qc5 qc6
              rintro e w1 ⟨rfl, hst⟩
              obtain ⟨pc0, pc1, pc2, pc3, pc4, pc5, pc6⟩ := cells7 hst.p
              obtain ⟨qc0, qc1, qc2, qc3, qc4, qc5, qc6⟩ := cells7 hst.q
              refine hK _ _ ?_
              clear hK K
              refine wpAny_at (l' := #[true, true, true, true, true, true, true, true, true, true, true, true, true, true, true, false, false, false, false, false, false, false, false, false, false, false, false, false, false]) (by kernel_rfl) ?_
              exact tail _ hst
            · go_simp
              refine (class_st q B5 d5 B6 d6 w _ _ _ rq hst).mono ?_
              clear pc0 pc1 pc2 pc3 pc4 pc5 pc6 qc0 qc1 qc2 qc3 qc4 qc5 qc6
              rintro e w1 ⟨rfl, hst⟩
              obtain ⟨pc0, pc1, pc2, pc3, pc4, pc5, pc6⟩ := cells7 hst.p
              obtain ⟨qc0, qc1, qc2, qc3, qc4, qc5, qc6⟩ := cells7 hst.q
              refine hK _ _ ?_
              clear hK K
              refine wpAny_ready (rs := [12]) (by kernel_rfl) (by simp) ?_
              refine AllReady.cons rfl (fun K hK => ?_) AllReady.nil
              go_simp
              refine hK _ _ ?_
              clear hK K
              refine wpAny_at (l' := #[true, true, true, true, true, true, true, true, true, true, true, true, true, true, true, false, false, false, false, false, false, false, false, false, false, false, false, false, false]) (by kernel_rfl) ?_
              exact tail _ hst
        · go_simp
          refine hK _ _ ?_
          clear hK K
          refine wpAny_ready (rs := [11]) (by kernel_rfl) (by simp) ?_
          refine AllReady.cons rfl (fun K hK => ?_) AllReady.nil
          go_simp
          refine (class_st p A5 c5 A6 c6 w _ _ _ rp hst).mono ?_
          clear pc0 pc1 pc2 pc3 pc4 pc5 pc6 qc0 qc1 qc2 qc3 qc4 qc5 qc6
          rintro e w1 ⟨rfl, hst⟩
          obtain ⟨pc0, pc1, pc2, pc3, pc4, pc5, pc6⟩ := cells7 hst.p
          obtain ⟨qc0, qc1, qc2, qc3, qc4, qc5, qc6⟩ := cells7 hst.q
          refine hK _ _ ?_
          clear hK K
          refine wpAny_ready (rs := [12, 14]) (by kernel_rfl) (by simp) ?_
          refine AllReady.cons rfl (fun K hK => ?_) (AllReady.cons rfl (fun K hK => ?_) AllReady.nil)
          · go_simp
            refine hK _ _ ?_
            clear hK K
            refine wpAny_ready (rs := [14]) (by kernel_rfl) (by simp) ?_
            refine AllReady.cons rfl (fun K hK => ?_) AllReady.nil
            go_simp
            refine (class_st q B5 d5 B6 d6 w _ _ _ rq hst).mono ?_
            clear pc0 pc1 pc2 pc3 pc4 pc5 pc6 qc0 qc1 qc2 qc3 qc4 qc5 qc6
            rintro e w1 ⟨rfl, hst⟩
            obtain ⟨pc0, pc1, pc2, pc3, pc4, pc5, pc6⟩ := cells7 hst.p
            obtain ⟨qc0, qc1, qc2, qc3, qc4, qc5, qc6⟩ := cells7 hst.q
            refine hK _ _ ?_
            clear hK K
            refine wpAny_at (l' := #[true, true, true, true, true, true, true, true, true, true, true, true, true, true, true, false, false, false, false, false, false, false, false, false, false, false, false, false, false]) (by kernel_rfl) ?_
            exact tail _ hst
          · go_simp
            refine (class_st q B5 d5 B6 d6 w _ _ _ rq hst).mono ?_
            clear pc0 pc1 pc2 pc3 pc4 pc5 pc6 qc0 qc1 qc2 qc3 qc4 qc5 qc6
            rintro e w1 ⟨rfl, hst⟩
            obtain ⟨pc0, pc1, pc2, pc3, pc4, pc5, pc6⟩ := cells7 hst.p
            obtain ⟨qc0, qc1, qc2, qc3, qc4, qc5, qc6⟩ := cells7 hst.q
            refine hK _ _ ?_
            clear hK K
            refine wpAny_ready (rs := [12]) (by kernel_rfl) (by simp) ?_
            refine AllReady.cons rfl (fun K hK => ?_) AllReady.nil
            go_simp
            refine hK _ _ ?_
            clear hK K
            refine wpAny_at (l' := #[true, true, true, true, true, true, true, true, true, true, true, true, true, true, true, false, false, false, false, false, false, false, false, false, false, false, false, false, false]) (by kernel_rfl) ?_
            exact tail _ hst
      · go_simp
        refine hK _ _ ?_
        clear hK K
        refine wpAny_ready (rs := [9]) (by kernel_rfl) (by simp) ?_
        refine AllReady.cons rfl (fun K hK => ?_) AllReady.nil
        go_simp
        refine (rules_st w _ _ _ hst).mono ?_
        clear pc0 pc1 pc2 pc3 pc4 pc5 pc6 qc0 qc1 qc2 qc3 qc4 qc5 qc6
        rintro e w1 ⟨rfl, hst⟩
        obtain ⟨pc0, pc1, pc2, pc3, pc4, pc5, pc6⟩ := cells7 hst.p
        obtain ⟨qc0, qc1, qc2, qc3, qc4, qc5, qc6⟩ := cells7 hst.q
        refine hK _ _ ?_
        clear hK K
        refine wpAny_ready (rs := [11]) (by kernel_rfl) (by simp) ?_
        refine AllReady.cons rfl (fun K hK => ?_) AllReady.nil
        go_simp
        refine (class_st p A5 c5 A6 c6 w _ _ _ rp hst).mono ?_
        clear pc0 pc1 pc2 pc3 pc4 pc5 pc6 qc0 qc1 qc2 qc3 qc4 qc5 qc6
        rintro e w1 ⟨rfl, hst⟩
        obtain ⟨pc0, pc1, pc2, pc3, pc4, pc5, pc6⟩ := cells7 hst.p
        obtain ⟨qc0, qc1, qc2, qc3, qc4, qc5, qc6⟩ := cells7 hst.q
        refine hK _ _ ?_
        clear hK K
        refine wpAny_ready (rs := [12, 14]) (by kernel_rfl) (by simp) ?_
        refine AllReady.cons rfl (fun K hK => ?_) (AllReady.cons rfl (fun K hK => ?_) AllReady.nil)
        · go_simp
          refine hK _ _ ?_
          clear hK K
          refine wpAny_ready (rs := [14]) (by kernel_rfl) (by simp) ?_
          refine AllReady.cons rfl (fun K hK => ?_) AllReady.nil
          go_simp
          refine (class_st q B5 d5 B6 d6 w _ _ _ rq hst).mono ?_
          clear pc0 pc1 pc2 pc3 pc4 pc5 pc6 qc0 qc1 qc2 qc3 qc4 qc5 qc6
          rintro e w1 ⟨rfl, hst⟩
          obtain ⟨pc0, pc1, pc2, pc3, pc4, pc5, pc6⟩ := cells7 hst.p
          obtain ⟨qc0, qc1, qc2, qc3, qc4, qc5, qc6⟩ := cells7 hst.q
          refine hK _ _ ?_
          clear hK K
          refine wpAny_at (l' := #[true, true, true, true, true, true, true, true, true, true, true, true, true, true, true, false, false, false, false, false, false, false, false, false, false, false, false, false, false]) (by kernel_rfl) ?_
          exact tail _ hst
        · go_simp
          refine (class_st q B5 d5 B6 d6 w _ _ _ rq hst).mono ?_
          clear pc0 pc1 pc2 pc3 pc4 pc5 pc6 qc0 qc1 qc2 qc3 qc4 qc5 qc6
          rintro e w1 ⟨rfl, hst⟩
          obtain ⟨pc0, pc1, pc2, pc3, pc4, pc5, pc6⟩ := cells7 hst.p
          obtain ⟨qc0, qc1, qc2, qc3, qc4, qc5, qc6⟩ := cells7 hst.q
          refine hK _ _ ?_
          clear hK K
          refine wpAny_ready (rs := [12]) (by kernel_rfl) (by simp) ?_
          refine AllReady.cons rfl (fun K hK => ?_) AllReady.nil
          go_simp
          refine hK _ _ ?_
          clear hK K
          refine wpAny_at (l' := #[true, true, true, true, true, true, true, true, true, true, true, true, true, true, true, false, false, false, false, false, false, false, false, false, false, false, false, false, false]) (by kernel_rfl) ?_
          exact tail _ hst
    · go_simp
      refine hK _ _ ?_
      clear hK K
      refine wpAny_ready (rs := [9, 10]) (by kernel_rfl) (by simp) ?_
      refine AllReady.cons rfl (fun K hK => ?_) (AllReady.cons rfl (fun K hK => ?_) AllReady.nil)
      · go_simp
        refine (rules_st w _ _ _ hst).mono ?_
        clear pc0 pc1 pc2 pc3 pc4 pc5 pc6 qc0 qc1 qc2 qc3 qc4 qc5 qc6
        rintro e w1 ⟨rfl, hst⟩
        obtain ⟨pc0, pc1, pc2, pc3, pc4, pc5, pc6⟩ := cells7 hst.p
        obtain ⟨qc0, qc1, qc2, qc3, qc4, qc5, qc6⟩ := cells7 hst.q
        refine hK _ _ ?_
        clear hK K
        refine wpAny_ready (rs := [10]) (by kernel_rfl) (by simp) ?_
        refine AllReady.cons rfl (fun K hK => ?_) AllReady.nil
        go_simp
        refine hK _ _ ?_
        clear hK K
        refine wpAny_ready (rs := [11]) (by kernel_rfl) (by simp) ?_
        refine AllReady.cons rfl (fun K hK => ?_) AllReady.nil
        go_simp
        refine (class_st p A5 c5 A6 c6 w _ _ _ rp hst).mono ?_
        clear pc0 pc1 pc2 pc3 pc4 pc5 pc6 qc0 qc1 qc2 qc3 qc4 qc5 qc6
        rintro e w1 ⟨rfl, hst⟩
        obtain ⟨pc0, pc1, pc2, pc3, pc4, pc5, pc6⟩ := cells7 hst.p
        obtain ⟨qc0, qc1, qc2, qc3, qc4, qc5, qc6⟩ := cells7 hst.q
        refine hK _ _ ?_
        clear hK K
        refine wpAny_ready (rs := [12, 14]) (by kernel_rfl) (by simp) ?_
        refine AllReady.cons rfl (fun K hK => ?_) (AllReady.cons rfl (fun K hK => ?_) AllReady.nil)
        · go_simp
          refine hK _ _ ?_
          clear hK K
          refine wpAny_ready (rs := [14]) (by kernel_rfl) (by simp) ?_
          refine AllReady.cons rfl (fun K hK => ?_) AllReady.nil
          go_simp
          refine (class_st q B5 d5 B6 d6 w _ _ _ rq hst).mono ?_
          clear pc0 pc1 pc2 pc3 pc4 pc5 pc6 qc0 qc1 qc2 qc3 qc4 qc5 qc6
          rintro e w1 ⟨rfl, hst⟩
          obtain ⟨pc0, pc1, pc2, pc3, pc4, pc5, pc6⟩ := cells7 hst.p
          obtain ⟨qc0, qc1, qc2, qc3, qc4, qc5, qc6⟩ := cells7 hst.q
          refine hK _ _ ?_
          clear hK K
          refine wpAny_at (l' := #[true, true, true, true, true, true, true, true, true, true, true, true, true, true, true, false, false, false, false, false, false, false, false, false, false, false, false, false, false]) (by kernel_rfl) ?_
          exact tail _ hst
        · go_simp
          refine (class_st q B5 d5 B6 d6 w _ _ _ rq hst).mono ?_
          clear pc0 pc1 pc2 pc3 pc4 pc5 pc6 qc0 qc1 qc2 qc3 qc4 qc5 qc6
          rintro e w1 ⟨rfl, hst⟩
          obtain ⟨pc0, pc1, pc2, pc3, pc4, pc5, pc6⟩ := cells7 hst.p
          obtain ⟨qc0, qc1, qc2, qc3, qc4, qc5, qc6⟩ := cells7 hst.q
          refine hK _ _ ?_
          clear hK K
          refine wpAny_ready (rs := [12]) (by kernel_rfl) (by simp) ?_
          refine AllReady.cons rfl (fun K hK => ?_) AllReady.nil
          go_simp
          refine hK _ _ ?_
          clear hK K
          refine wpAny_at (l' := #[true, true, true, true, true, true, true, true, true, true, true, true, true, true, true, false, false, false, false, false, false, false, false, false, false, false, false, false, false]) (by kernel_rfl) ?_
          exact tail _ hst
      · go_simp
        refine hK _ _ ?_
        clear hK K
        refine wpAny_ready (rs := [9]) (by kernel_rfl) (by simp) ?_
        refine AllReady.cons rfl (fun K hK => ?_) AllReady.nil
        go_simp
        refine (rules_st w _ _ _ hst).mono ?_
        clear pc0 pc1 pc2 pc3 pc4 pc5 pc6 qc0 qc1 qc2 qc3 qc4 qc5 qc6
        rintro e w1 ⟨rfl, hst⟩
        obtain ⟨pc0, pc1, pc2, pc3, pc4, pc5, pc6⟩ := cells7 hst.p
        obtain ⟨qc0, qc1, qc2, qc3, qc4, qc5, qc6⟩ := cells7 hst.q
        refine hK _ _ ?_
        clear hK K
        refine wpAny_ready (rs := [11]) (by kernel_rfl) (by simp) ?_
        refine AllReady.cons rfl (fun K hK => ?_) AllReady.nil
        go_simp
        refine (class_st p A5 c5 A6 c6 w _ _ _ rp hst).mono ?_
        clear pc0 pc1 pc2 pc3 pc4 pc5 pc6 qc0 qc1 qc2 qc3 qc4 qc5 qc6
        rintro e w1 ⟨rfl, hst⟩
        obtain ⟨pc0, pc1, pc2, pc3, pc4, pc5, pc6⟩ := cells7 hst.p
        obtain ⟨qc0, qc1, qc2, qc3, qc4, qc5, qc6⟩ := cells7 hst.q
        refine hK _ _ ?_
        clear hK K
        refine wpAny_ready (rs := [12, 14]) (by kernel_rfl) (by simp) ?_
        refine AllReady.cons rfl (fun K hK => ?_) (AllReady.cons rfl (fun K hK => ?_) AllReady.nil)
        · go_simp
          refine hK _ _ ?_
          clear hK K
          refine wpAny_ready (rs := [14]) (by kernel_rfl) (by simp) ?_
          refine AllReady.cons rfl (fun K hK => ?_) AllReady.nil
          go_simp
          refine (class_st q B5 d5 B6 d6 w _ _ _ rq hst).mono ?_
          clear pc0 pc1 pc2 pc3 pc4 pc5 pc6 qc0 qc1 qc2 qc3 qc4 qc5 qc6
          rintro e w1 ⟨rfl, hst⟩
          obtain ⟨pc0, pc1, pc2, pc3, pc4, pc5, pc6⟩ := cells7 hst.p
          obtain ⟨qc0, qc1, qc2, qc3, qc4, qc5, qc6⟩ := cells7 hst.q
          refine hK _ _ ?_
          clear hK K
          refine wpAny_at (l' := #[true, true, true, true, true, true, true, true, true, true, true, true, true, true, true, false, false, false, false, false, false, false, false, false, false, false, false, false, false]) (by kernel_rfl) ?_
          exact tail _ hst
        · go_simp
          refine (class_st q B5 d5 B6 d6 w _ _ _ rq hst).mono ?_
          clear pc0 pc1 pc2 pc3 pc4 pc5 pc6 qc0 qc1 qc2 qc3 qc4 qc5 qc6
          rintro e w1 ⟨rfl, hst⟩
          obtain ⟨pc0, pc1, pc2, pc3, pc4, pc5, pc6⟩ := cells7 hst.p
          obtain ⟨qc0, qc1, qc2, qc3, qc4, qc5, qc6⟩ := cells7 hst.q
          refine hK _ _ ?_
          clear hK K
          refine wpAny_ready (rs := [12]) (by kernel_rfl) (by simp) ?_
          refine AllReady.cons rfl (fun K hK => ?_) AllReady.nil
          go_simp
          refine hK _ _ ?_
          clear hK K
          refine wpAny_at (l' := #[true, true, true, true, true, true, true, true, true, true, true, true, true, true, true, false, false, false, false, false, false, false, false, false, false, false, false, false, false]) (by kernel_rfl) ?_
          exact tail _ hst
  · clear hst
    intro w1 hst
    obtain ⟨pc0, pc1, pc2, pc3, pc4, pc5, pc6⟩ := cells7 hst.p
    obtain ⟨qc0, qc1, qc2, qc3, qc4, qc5, qc6⟩ := cells7 hst.q
    refine wpAny_ready (rs := [15]) (by kernel_rfl) (by simp) ?_
    refine AllReady.cons rfl (fun K hK => ?_) AllReady.nil
    go_simp
    refine hK _ _ ?_
    clear hK K
    refine wpAny_ready (rs := [16]) (by kernel_rfl) (by simp) ?_
    refine AllReady.cons rfl (fun K hK => ?_) AllReady.nil
    go_simp
    refine (hrule _ hst).mono ?_
    clear pc0 pc1 pc2 pc3 pc4 pc5 pc6 qc0 qc1 qc2 qc3 qc4 qc5 qc6
    rintro e w1 ⟨rfl, hst⟩
    obtain ⟨pc0, pc1, pc2, pc3, pc4, pc5, pc6⟩ := cells7 hst.p
    obtain ⟨qc0, qc1, qc2, qc3, qc4, qc5, qc6⟩ := cells7 hst.q
    refine hK _ _ ?_
    clear hK K
    refine wpAny_ready (rs := [17]) (by kernel_rfl) (by simp) ?_
    refine AllReady.cons rfl (fun K hK => ?_) AllReady.nil
    go_simp
    refine hK _ _ ?_
    clear hK K
    refine wpAny_ready (rs := [18]) (by kernel_rfl) (by simp) ?_
    refine AllReady.cons rfl (fun K hK => ?_) AllReady.nil
    go_simp
    refine hK _ _ ?_
    clear hK K
    refine wpAny_ready (rs := [19]) (by kernel_rfl) (by simp) ?_
    refine AllReady.cons rfl (fun K hK => ?_) AllReady.nil
    go_simp
    refine hK _ _ ?_
    clear hK K
    refine wpAny_ready (rs := [20]) (by kernel_rfl) (by simp) ?_
    refine AllReady.cons rfl (fun K hK => ?_) AllReady.nil
    go_simp
    refine hK _ _ ?_
    clear hK K
    refine wpAny_ready (rs := [21]) (by kernel_rfl) (by simp) ?_
    refine AllReady.cons rfl (fun K hK => ?_) AllReady.nil
    go_simp
    refine (RP2 _ _ _ hst).mono ?_
    clear pc0 pc1 pc2 pc3 pc4 pc5 pc6 qc0 qc1 qc2 qc3 qc4 qc5 qc6
    rintro e w1 ⟨rfl, hst⟩
    obtain ⟨pc0, pc1, pc2, pc3, pc4, pc5, pc6⟩ := cells7 hst.p
    obtain ⟨qc0, qc1, qc2, qc3, qc4, qc5, qc6⟩ := cells7 hst.q
    refine hK _ _ ?_
    clear hK K
    refine wpAny_ready (rs := [22]) (by kernel_rfl) (by simp) ?_
    refine AllReady.cons rfl (fun K hK => ?_) AllReady.nil
    go_simp
    refine hK _ _ ?_
    clear hK K
    refine wpAny_ready (rs := [23]) (by kernel_rfl) (by simp) ?_
    refine AllReady.cons rfl (fun K hK => ?_) AllReady.nil
    go_simp
    refine hK _ _ ?_
    clear hK K
    refine wpAny_ready (rs := [24]) (by kernel_rfl) (by simp) ?_
    refine AllReady.cons rfl (fun K hK => ?_) AllReady.nil
    go_simp
    refine hK _ _ ?_
    clear hK K
    refine wpAny_ready (rs := [25]) (by kernel_rfl) (by simp) ?_
    refine AllReady.cons rfl (fun K hK => ?_) AllReady.nil
    go_simp
    refine hK _ _ ?_
    clear hK K
    refine wpAny_ready (rs := [26]) (by kernel_rfl) (by simp) ?_
    refine AllReady.cons rfl (fun K hK => ?_) AllReady.nil
    go_simp
    refine (RQ2 _ _ _ hst).mono ?_
    clear pc0 pc1 pc2 pc3 pc4 pc5 pc6 qc0 qc1 qc2 qc3 qc4 qc5 qc6
    rintro e w1 ⟨rfl, hst⟩
    obtain ⟨pc0, pc1, pc2, pc3, pc4, pc5, pc6⟩ := cells7 hst.p
    obtain ⟨qc0, qc1, qc2, qc3, qc4, qc5, qc6⟩ := cells7 hst.q
    refine hK _ _ ?_
    clear hK K
    refine wpAny_ready (rs := [27]) (by kernel_rfl) (by simp) ?_
    refine AllReady.cons rfl (fun K hK => ?_) AllReady.nil
    go_simp
    refine hK _ _ ?_
    clear hK K
    refine wpAny_ready (rs := [28]) (by kernel_rfl) (by simp) ?_
    refine AllReady.cons rfl (fun K hK => ?_) AllReady.nil
    go_simp
    refine hK _ _ ?_
    clear hK K
    refine wpAny_done (by kernel_rfl) ?_ _
    obtain ⟨xc0, xc1, xc2, xc3, xc4, xc5, xc6⟩ := cells7 hst.x
    obtain ⟨yc0, yc1, yc2, yc3, yc4, yc5, yc6⟩ := cells7 hst.y
    obtain ⟨pf0, pf1, pf2, pf3, pf4, pf5, pf6⟩ := frozen7 hst.p
    obtain ⟨qf0, qf1, qf2, qf3, qf4, qf5, qf6⟩ := frozen7 hst.q
    obtain ⟨xf0, xf1, xf2, xf3, xf4, xf5, xf6⟩ := frozen7 hst.x
    obtain ⟨yf0, yf1, yf2, yf3, yf4, yf5, yf6⟩ := frozen7 hst.y
    clear RP RQ RP2 RQ2
    clear hrule h70 h69
    go_wp2
    all_goals go_region
    all_goals go_wp2
    all_goals
      refine bodyPost_ret (ret24 (gx := w.heap.size + 1 + 1) (gy := w.heap.size + 1 + 1 + 1) rfl rfl rfl ?_ ?_) rfl ⟨rfl, ?_⟩
      · exact drew_at ((keep7 (by omega) _ _ _ _ _ _ _).trans (set7 hst.x rfl _ _ _ _ _ _ _))
      · exact drew_at (set7 ((keep7 (by omega) _ _ _ _ _ _ _).trans hst.y) rfl _ _ _ _ _ _ _)
      · exact Below.drew (below7 (below7 hst.below (by omega) _ _ _ _ _ _ _) (by omega) _ _ _ _ _ _ _)
end Go.Proofs.YthhohbidjhcjeaaDoor.H
