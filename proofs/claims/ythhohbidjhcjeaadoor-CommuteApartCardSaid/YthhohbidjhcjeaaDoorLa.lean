/- The walk of law 10's CommuteApart: whatever the two patches, it answers true. -/
import Derived.Test.YthhohbidjhcjeaaDoorCl
namespace Go.Proofs.YthhohbidjhcjeaaDoor.H
open Go.RowKit Go.Proofs.YthhohbidjhcjeaaDoorW.PrintWords Go.Proofs.YthhohbidjhcjeaaDoorW.PrintLast Go.Proofs.YthhohbidjhcjeaaDoorW.PrintMore
open Go.Proofs.YthhohbidjhcjeaaDoor.Q Go.Proofs.YthhohbidjhcjeaaDoor.Pl
set_option linter.unusedSimpArgs false
set_option linter.unusedVariables false
theorem rWithin_f (a b : ByteArray) : counterpaneref04_Within.f a b = some (withinB a b) := by
  unfold counterpaneref04_Within.f withinB
  by_cases he : a.toList = b.toList
  · obtain rfl := toList_inj he
    have e1 : (a.extract 0 a.size) = a := by simp
    have e2 : (a.extract a.size a.size).toList = [] := by rw [toList_data, extract_data]; simp
    rw [if_pos rfl, if_pos ⟨by rw [e1], Nat.le_refl _⟩, if_pos e2]
  · rw [if_neg he]
    by_cases hs : b.size < a.size
    · rw [if_pos (by omega), if_pos (by omega), if_pos (by omega), Int.toNat_natCast]
      by_cases hp : (a.extract 0 b.size).toList = b.toList
      · have hr : (a.extract b.size a.size).size = a.size - b.size := by simp
        have hn : ¬ (a.extract b.size a.size).toList = [] := fun e => by
          have := size_toList (a.extract b.size a.size)
          rw [e] at this
          simp at this
          omega
        rw [if_pos hp, if_pos (by omega), if_pos ⟨hp, by omega⟩, if_neg hn]
        have hb : bt (a.extract b.size a.size) 0 = bt a (b.size : Int) := by
          have h0 := bt_get (a.extract b.size a.size) 0 (by omega)
          rw [show ((0 : Nat) : Int) = 0 from rfl] at h0
          rw [h0, bt_get a b.size hs]
          congr 2
          rw [← Option.some_inj, ← List.getElem?_eq_getElem, ← List.getElem?_eq_getElem, extract_data, List.getElem?_drop, List.getElem?_take]
          simp [hs]
        rw [hb]
      · rw [if_neg hp, if_neg (fun h => hp h.1)]
    · rw [if_neg (by omega), if_neg ?_]
      rintro ⟨h1, h2⟩
      have : b.size = a.size := by omega
      rw [this] at h1
      simp at h1
      exact he h1
theorem rApart_f (a b : ByteArray) : counterpaneref04_Apart.f a b = some (apartB a b) := by
  unfold counterpaneref04_Apart.f apartB
  rw [rWithin_f, rWithin_f]
  cases withinB a b <;> rfl

theorem infoS : (Tryd.prog.info? 9).map (fun i => (i.zero, i.size, i.bytes)) = some (some (.string ⟨#[]⟩), 1, 16) := by kernel_rfl
theorem fkS (w : World) (ok : Nat → Prop) (s : ByteArray) : Kd.FK Kd.string w ok s [.string s] := fun _ _ => rfl
theorem litS (w : World) (s : ByteArray) (base : Nat) (hb : base ≤ w.heap.size) : Kd.N Kd.string 9 (w.alloc (.cells #[.string s] 9)) base (fun k => k = w.heap.size) (.slice (some ⟨w.heap.size, 0, none⟩) 1 1) [s] := by
  have hr : Reps (fun x c => Kd.FK Kd.string w (fun _ => False) x c) Kd.string.sz [s] ([] ++ [.string s]) := (Reps.none _ _).snoc (fkS w _ s) (Kd.FK_raw (fkS w (fun _ => False) s)).2.1
  have ho : Kd.NN Kd.string 9 (w.alloc (.cells #[.string s] 9)) w.heap.size (fun _ => False) (.slice (some ⟨w.heap.size, 0, none⟩) 1 1) [s] :=
    OwnRow.lit w w.heap.size (hr.imp_ (fun _ _ h => Kd.FK_below h (below_alloc (Below.refl _ _) _))) (Nat.le_refl _) (by simp)
  refine Kd.N_lower (Kd.N_mono (Kd.N_bound (Kd.NN_N ho (fun _ h => h.elim))) (fun k hk => ?_)) hb
  have h1 : w.heap.size ≤ k := hk.1.elim (fun h => h.elim) id
  have h2 := hk.2
  simp at h2
  omega
theorem comm_gen (p q : S24) (A5 : Option Addr) (c5 : Nat) (A6 : Option Addr) (c6 : Nat) (B5 : Option Addr) (d5 : Nat) (B6 : Option Addr) (d6 : Nat) (w : World) (hp : Okp p) (hq : Okp q) (rp : Rd w p A5 c5 A6 c6) (rq : Rd w q B5 d5 B6 d6) :
    Calls Tryd.prog 24 #[.agg (cs p A5 c5 A6 c6), .agg (cs q B5 d5 B6 d6)] w fun e w' => ∃ (a b : S24) (X5 : Option Addr) (x5 : Nat) (X6 : Option Addr) (x6 : Nat) (Y5 : Option Addr) (y5 : Nat) (Y6 : Option Addr) (y6 : Nat) (is : Bool), e = .returned (.tuple #[.agg (cs a X5 x5 X6 x6), .agg (cs b Y5 y5 Y6 y6), .bool is]) ∧ Rd w' a X5 x5 X6 x6 ∧ Rd w' b Y5 y5 Y6 y6 ∧ comm p q = (a, b, is) ∧ Below w.heap.size w w' := by
  refine (comm_at p q A5 c5 A6 c6 B5 d5 B6 d6 w hp hq rp rq).mono ?_
  rintro e w' ⟨⟨hn, rfl⟩ | ⟨a, b, hy, rfl⟩, hb⟩
  · exact ⟨z24, z24, none, 0, none, 0, none, 0, none, 0, false, rfl, rd_nil _ _ rfl rfl, rd_nil _ _ rfl rfl, hn, hb⟩
  · obtain ⟨kb, ka⟩ := rule_keep hy.r
    exact ⟨a, b, B5, d5, B6, d6, A5, c5, A6, c6, true, rfl, (rq.of (by rw [ka]) (by rw [ka])).below hb, (rp.of (by rw [kb]) (by rw [kb])).below hb, comm_of hy, hb⟩
theorem rdOf_str (xs : List ByteArray) {i : Nat} (h : i < xs.length) : rdOf ByteArray.empty xs (i : Int) = xs[i] := rdOf_get _ _ h
theorem take_succ_all (l : List ByteArray) (k : Nat) (h : k < l.length) (P : ByteArray → Bool) : (l.take (k + 1)).all P = ((l.take k).all P && P l[k]) := by
  rw [List.take_succ_eq_append_getElem h, List.all_append]
  simp
set_option maxHeartbeats 4000000 in
set_option maxRecDepth 100000 in
theorem apart10_calls (p q : S24) (A5 : Option Addr) (a5 : Nat) (A6 : Option Addr) (a6 : Nat) (B5 : Option Addr) (b5 : Nat) (B6 : Option Addr) (b6 : Nat) (w : World) (hp : Okp p) (hq : Okp q) (rp : Rd w p A5 a5 A6 a6) (rq : Rd w q B5 b5 B6 b6) :
    Calls Tryd.prog 6 #[.agg #[.int .i64 p.f0, .string p.f1, .string p.f2, .string p.f3, .int .i64 p.f4, .slice A5 p.f5.length a5, .slice A6 p.f6.length a6], .agg #[.int .i64 q.f0, .string q.f1, .string q.f2, .string q.f3, .int .i64 q.f4, .slice B5 q.f5.length b5, .slice B6 q.f6.length b6]] w fun e w' => e = .returned (.bool true) ∧ Below w.heap.size w w' := by
  go_enter Tryd.func6, Tryd.ntmps6
  go_wp2_with (fail)
  refine (head10_calls _).mono ?_
  rintro e w1 ⟨rfl, hb1⟩
  have hs1 : Below w.heap.size w w1 := two_steps (by repeat (first | exact Below.refl _ _ | refine Below.setCell ?_ (by simp <;> omega) _ | refine Below.alloc ?_ (by simp <;> omega) _ | refine Below.drew ?_)) hb1
  have hw1 : Below w.heap.size w w1 := (Below.refl w.heap.size w).trans (hs1.mono (Below.refl w.heap.size w).size)
  have rp := rp.below hs1
  have rq := rq.below hs1
  have xp : w1.heap[w.heap.size]? = some (.cells #[.int .i64 p.f0, .string p.f1, .string p.f2, .string p.f3, .int .i64 p.f4, .slice A5 p.f5.length a5, .slice A6 p.f6.length a6] 24 (0, 0)) := blk_below (box1 w _ _) hb1
  have xq : w1.heap[w.heap.size + 1]? = some (.cells #[.int .i64 q.f0, .string q.f1, .string q.f2, .string q.f3, .int .i64 q.f4, .slice B5 q.f5.length b5, .slice B6 q.f6.length b6] 24 (0, 0)) := blk_below (box2 w _ _) hb1
  obtain ⟨pc0, pc1, pc2, pc3, pc4, pc5, pc6⟩ := cells7 xp
  obtain ⟨qc0, qc1, qc2, qc3, qc4, qc5, qc6⟩ := cells7 xq
  go_wp2_with (fail)
  obtain ⟨r, -, hg⟩ := great_at p A5 a5 A6 a6 w1 hp rp
  refine hg.mono ?_
  rintro e w2 ⟨rfl, hb2⟩
  clear pc0 pc1 pc2 pc3 pc4 pc5 pc6 qc0 qc1 qc2 qc3 qc4 qc5 qc6
  have hs2 : Below w1.heap.size w1 w2 := two_steps (by repeat (first | exact Below.refl _ _ | refine Below.setCell ?_ (by simp <;> omega) _ | refine Below.alloc ?_ (by simp <;> omega) _ | refine Below.drew ?_)) hb2
  have hw2 : Below w.heap.size w w2 := hw1.trans (hs2.mono hw1.size)
  have xp := blk_below xp hs2
  have xq := blk_below xq hs2
  have rp := rp.below hs2
  have rq := rq.below hs2
  obtain ⟨pc0, pc1, pc2, pc3, pc4, pc5, pc6⟩ := cells7 xp
  obtain ⟨qc0, qc1, qc2, qc3, qc4, qc5, qc6⟩ := cells7 xq
  cases r with
  | true =>
    go_wp2
    go_ret
    exact ⟨rfl, by repeat (first | with_reducible exact hw2 | refine Below.setCell ?_ (by have := hw2.size; simp <;> omega) _ | refine Below.alloc ?_ (by have := hw2.size; simp <;> omega) _ | refine Below.drew ?_)⟩
  | false =>
    go_wp2_with (fail)
    obtain ⟨r, -, hg⟩ := great_at q B5 b5 B6 b6 w2 hq rq
    refine hg.mono ?_
    rintro e w3 ⟨rfl, hb3⟩
    clear pc0 pc1 pc2 pc3 pc4 pc5 pc6 qc0 qc1 qc2 qc3 qc4 qc5 qc6
    have hs3 : Below w2.heap.size w2 w3 := two_steps (by repeat (first | exact Below.refl _ _ | refine Below.setCell ?_ (by simp <;> omega) _ | refine Below.alloc ?_ (by simp <;> omega) _ | refine Below.drew ?_)) hb3
    have hw3 : Below w.heap.size w w3 := hw2.trans (hs3.mono hw2.size)
    have xp := blk_below xp hs3
    have xq := blk_below xq hs3
    have rp := rp.below hs3
    have rq := rq.below hs3
    obtain ⟨pc0, pc1, pc2, pc3, pc4, pc5, pc6⟩ := cells7 xp
    obtain ⟨qc0, qc1, qc2, qc3, qc4, qc5, qc6⟩ := cells7 xq
    cases r with
    | true =>
      go_wp2
      go_ret
      exact ⟨rfl, by repeat (first | with_reducible exact hw3 | refine Below.setCell ?_ (by have := hw3.size; simp <;> omega) _ | refine Below.alloc ?_ (by have := hw3.size; simp <;> omega) _ | refine Below.drew ?_)⟩
    | false =>
      go_wp2_with (fail)
      refine (right_at p A5 a5 A6 a6 _ hp (rp.below (by repeat (first | exact Below.refl _ _ | refine Below.setCell ?_ (by simp <;> omega) _ | refine Below.alloc ?_ (by simp <;> omega) _ | refine Below.drew ?_)))).mono ?_
      rintro e w4 ⟨rfl, hb4⟩
      clear pc0 pc1 pc2 pc3 pc4 pc5 pc6 qc0 qc1 qc2 qc3 qc4 qc5 qc6
      have hs4 : Below w3.heap.size w3 w4 := two_steps (by repeat (first | exact Below.refl _ _ | refine Below.setCell ?_ (by simp <;> omega) _ | refine Below.alloc ?_ (by simp <;> omega) _ | refine Below.drew ?_)) hb4
      have hw4 : Below w.heap.size w w4 := hw3.trans (hs4.mono hw3.size)
      have xp := blk_below xp hs4
      have xq := blk_below xq hs4
      have rp := rp.below hs4
      have rq := rq.below hs4
      obtain ⟨pc0, pc1, pc2, pc3, pc4, pc5, pc6⟩ := cells7 xp
      obtain ⟨qc0, qc1, qc2, qc3, qc4, qc5, qc6⟩ := cells7 xq
      cases bp : primB p with
      | false =>
        clear bp
        go_wp2
        go_ret
        exact ⟨rfl, by repeat (first | with_reducible exact hw4 | refine Below.setCell ?_ (by have := hw4.size; simp <;> omega) _ | refine Below.alloc ?_ (by have := hw4.size; simp <;> omega) _ | refine Below.drew ?_)⟩
      | true =>
        replace bp := Aside0.mk bp
        go_wp2_with (fail)
        refine (right_at q B5 b5 B6 b6 _ hq (rq.below (by repeat (first | exact Below.refl _ _ | refine Below.setCell ?_ (by simp <;> omega) _ | refine Below.alloc ?_ (by simp <;> omega) _ | refine Below.drew ?_)))).mono ?_
        rintro e w5 ⟨rfl, hb5⟩
        clear pc0 pc1 pc2 pc3 pc4 pc5 pc6 qc0 qc1 qc2 qc3 qc4 qc5 qc6
        have hs5 : Below w4.heap.size w4 w5 := two_steps (by repeat (first | exact Below.refl _ _ | refine Below.setCell ?_ (by simp <;> omega) _ | refine Below.alloc ?_ (by simp <;> omega) _ | refine Below.drew ?_)) hb5
        have hw5 : Below w.heap.size w w5 := hw4.trans (hs5.mono hw4.size)
        have xp := blk_below xp hs5
        have xq := blk_below xq hs5
        have rp := rp.below hs5
        have rq := rq.below hs5
        obtain ⟨pc0, pc1, pc2, pc3, pc4, pc5, pc6⟩ := cells7 xp
        obtain ⟨qc0, qc1, qc2, qc3, qc4, qc5, qc6⟩ := cells7 xq
        cases bq : primB q with
        | false =>
          clear bq
          go_wp2
          go_ret
          exact ⟨rfl, by repeat (first | with_reducible exact hw5 | refine Below.setCell ?_ (by have := hw5.size; simp <;> omega) _ | refine Below.alloc ?_ (by have := hw5.size; simp <;> omega) _ | refine Below.drew ?_)⟩
        | true =>
          replace bq := Aside0.mk bq
          go_wp2_with (fail)
          refine (comm_gen p q A5 a5 A6 a6 B5 b5 B6 b6 _ hp hq (rp.below (by repeat (first | exact Below.refl _ _ | refine Below.setCell ?_ (by simp <;> omega) _ | refine Below.alloc ?_ (by simp <;> omega) _ | refine Below.drew ?_))) (rq.below (by repeat (first | exact Below.refl _ _ | refine Below.setCell ?_ (by simp <;> omega) _ | refine Below.alloc ?_ (by simp <;> omega) _ | refine Below.drew ?_)))).mono ?_
          rintro e w6 ⟨a, b, X5, x5, X6, x6, Y5, y5, Y6, y6, is, rfl, ra, rb, hcm, hb6⟩
          clear pc0 pc1 pc2 pc3 pc4 pc5 pc6 qc0 qc1 qc2 qc3 qc4 qc5 qc6
          have hs6 : Below w5.heap.size w5 w6 := two_steps (by repeat (first | exact Below.refl _ _ | refine Below.setCell ?_ (by simp <;> omega) _ | refine Below.alloc ?_ (by simp <;> omega) _ | refine Below.drew ?_)) hb6
          have hw6 : Below w.heap.size w w6 := hw5.trans (hs6.mono hw5.size)
          have xp := blk_below xp hs6
          have xq := blk_below xq hs6
          have rp := rp.below hs6
          have rq := rq.below hs6
          obtain ⟨pc0, pc1, pc2, pc3, pc4, pc5, pc6⟩ := cells7 xp
          obtain ⟨qc0, qc1, qc2, qc3, qc4, qc5, qc6⟩ := cells7 xq
          replace hcm := Aside0.mk hcm
          obtain ⟨pd0, pd1, pd2, pd3, pd4, pd5, pd6⟩ := deep2 xp
          obtain ⟨qd0, qd1, qd2, qd3, qd4, qd5, qd6⟩ := deep2 xq
          go_wp2_with (fail)
          refine (comm_not p p A5 a5 A6 a6 A5 a5 A6 a6 _ hp hp (rp.below (by repeat (first | exact Below.refl _ _ | refine Below.setCell ?_ (by simp <;> omega) _ | refine Below.alloc ?_ (by simp <;> omega) _ | refine Below.drew ?_))) (rp.below (by repeat (first | exact Below.refl _ _ | refine Below.setCell ?_ (by simp <;> omega) _ | refine Below.alloc ?_ (by simp <;> omega) _ | refine Below.drew ?_))) (comm_own hp.ok)).mono ?_
          rintro e w7 ⟨rfl, hb7⟩
          clear pc0 pc1 pc2 pc3 pc4 pc5 pc6 qc0 qc1 qc2 qc3 qc4 qc5 qc6 pd0 pd1 pd2 pd3 pd4 pd5 pd6 qd0 qd1 qd2 qd3 qd4 qd5 qd6
          have hs7 : Below w6.heap.size w6 w7 := two_steps (by repeat (first | exact Below.refl _ _ | refine Below.setCell ?_ (by simp <;> omega) _ | refine Below.alloc ?_ (by simp <;> omega) _ | refine Below.drew ?_)) hb7
          have hw7 : Below w.heap.size w w7 := hw6.trans (hs7.mono hw6.size)
          have xp := blk_below xp hs7
          have xq := blk_below xq hs7
          have rp := rp.below hs7
          have rq := rq.below hs7
          have ra := ra.below hs7
          have rb := rb.below hs7
          have xa : w7.heap[w6.heap.size]? = some (.cells #[.int .i64 a.f0, .string a.f1, .string a.f2, .string a.f3, .int .i64 a.f4, .slice X5 a.f5.length x5, .slice X6 a.f6.length x6] 24 (0, 0)) := blk_below (box1 w6 _ _) hb7
          have xb : w7.heap[w6.heap.size + 1]? = some (.cells #[.int .i64 b.f0, .string b.f1, .string b.f2, .string b.f3, .int .i64 b.f4, .slice Y5 b.f5.length y5, .slice Y6 b.f6.length y6] 24 (0, 0)) := blk_below (box2 w6 _ _) hb7
          obtain ⟨pc0, pc1, pc2, pc3, pc4, pc5, pc6⟩ := cells7 xp
          obtain ⟨qc0, qc1, qc2, qc3, qc4, qc5, qc6⟩ := cells7 xq
          obtain ⟨ac0, ac1, ac2, ac3, ac4, ac5, ac6⟩ := cells7 xa
          obtain ⟨bc0, bc1, bc2, bc3, bc4, bc5, bc6⟩ := cells7 xb
          go_upto_region 6 with (fail)
          obtain ⟨wU1, hwU1⟩ : ∃ U, U = (w7.alloc (.cells #[.int .i64 0, .string ⟨#[]⟩, .string ⟨#[]⟩, .string ⟨#[]⟩, .int .i64 0, .slice none 0 0, .slice none 0 0] 24)).alloc (.cells #[.int .i64 0, .string ⟨#[]⟩, .string ⟨#[]⟩, .string ⟨#[]⟩, .int .i64 0, .slice none 0 0, .slice none 0 0] 24) := ⟨_, rfl⟩
          rw [← hwU1]
          clear pc0 pc1 pc2 pc3 pc4 pc5 pc6 qc0 qc1 qc2 qc3 qc4 qc5 qc6 ac0 ac1 ac2 ac3 ac4 ac5 ac6 bc0 bc1 bc2 bc3 bc4 bc5 bc6
          have hs8 : Below w7.heap.size w7 wU1 := (by rw [hwU1]; exact ((Below.refl _ _).alloc (Nat.le_refl _) _).alloc (by simp) _)
          have hw8 : Below w.heap.size w wU1 := hw7.trans (hs8.mono hw7.size)
          have xp := blk_below xp hs8
          have xq := blk_below xq hs8
          have xa := blk_below xa hs8
          have xb := blk_below xb hs8
          have rp := rp.below hs8
          have rq := rq.below hs8
          have ra := ra.below hs8
          have rb := rb.below hs8
          obtain ⟨pc0, pc1, pc2, pc3, pc4, pc5, pc6⟩ := cells7 xp
          obtain ⟨qc0, qc1, qc2, qc3, qc4, qc5, qc6⟩ := cells7 xq
          obtain ⟨ac0, ac1, ac2, ac3, ac4, ac5, ac6⟩ := cells7 xa
          obtain ⟨bc0, bc1, bc2, bc3, bc4, bc5, bc6⟩ := cells7 xb
          replace hwU1 := Aside0.mk hwU1
          have yp := Aside0.mk xp
          have yq := Aside0.mk xq
          have ya := Aside0.mk xa
          have yb := Aside0.mk xb
          have yrp := Aside0.mk rp
          have yrq := Aside0.mk rq
          have yra := Aside0.mk ra
          have yrb := Aside0.mk rb
          go_upto_region 7 with (fail)
          obtain ⟨wU2, hwU2⟩ : ∃ U, U = wU1.alloc (.cells #[.string p.f1] 9) := ⟨_, rfl⟩
          rw [← hwU2]
          clear pc0 pc1 pc2 pc3 pc4 pc5 pc6 qc0 qc1 qc2 qc3 qc4 qc5 qc6 ac0 ac1 ac2 ac3 ac4 ac5 ac6 bc0 bc1 bc2 bc3 bc4 bc5 bc6
          have hs9 : Below wU1.heap.size wU1 wU2 := (by rw [hwU2]; exact below_alloc (Below.refl _ _) _)
          have hw9 : Below w.heap.size w wU2 := hw8.trans (hs9.mono hw8.size)
          have xp := blk_below xp hs9
          have xq := blk_below xq hs9
          have xa := blk_below xa hs9
          have xb := blk_below xb hs9
          have rp := rp.below hs9
          have rq := rq.below hs9
          have ra := ra.below hs9
          have rb := rb.below hs9
          obtain ⟨pc0, pc1, pc2, pc3, pc4, pc5, pc6⟩ := cells7 xp
          obtain ⟨qc0, qc1, qc2, qc3, qc4, qc5, qc6⟩ := cells7 xq
          obtain ⟨ac0, ac1, ac2, ac3, ac4, ac5, ac6⟩ := cells7 xa
          obtain ⟨bc0, bc1, bc2, bc3, bc4, bc5, bc6⟩ := cells7 xb
          replace hwU2 := Aside0.mk hwU2
          have n1 := litS wU1 p.f1 wU1.heap.size (Nat.le_refl _)
          rw [← hwU2.out] at n1
          go_upto_region 8 with (fail)
          obtain ⟨wU3, hwU3⟩ : ∃ U, U = wU2.alloc (.cells #[.string q.f1] 9) := ⟨_, rfl⟩
          rw [← hwU3]
          clear pc0 pc1 pc2 pc3 pc4 pc5 pc6 qc0 qc1 qc2 qc3 qc4 qc5 qc6 ac0 ac1 ac2 ac3 ac4 ac5 ac6 bc0 bc1 bc2 bc3 bc4 bc5 bc6
          have hs10 : Below wU2.heap.size wU2 wU3 := (by rw [hwU3]; exact below_alloc (Below.refl _ _) _)
          have hw10 : Below w.heap.size w wU3 := hw9.trans (hs10.mono hw9.size)
          have xp := blk_below xp hs10
          have xq := blk_below xq hs10
          have xa := blk_below xa hs10
          have xb := blk_below xb hs10
          have rp := rp.below hs10
          have rq := rq.below hs10
          have ra := ra.below hs10
          have rb := rb.below hs10
          obtain ⟨pc0, pc1, pc2, pc3, pc4, pc5, pc6⟩ := cells7 xp
          obtain ⟨qc0, qc1, qc2, qc3, qc4, qc5, qc6⟩ := cells7 xq
          obtain ⟨ac0, ac1, ac2, ac3, ac4, ac5, ac6⟩ := cells7 xa
          obtain ⟨bc0, bc1, bc2, bc3, bc4, bc5, bc6⟩ := cells7 xb
          replace hwU3 := Aside0.mk hwU3
          have n2 := litS wU2 q.f1 wU1.heap.size (by rw [hwU2.out]; simp)
          rw [← hwU3.out] at n2
          replace n1 := Kd.N_below n1 (by rw [hwU3.out]; exact below_alloc (Below.refl _ _) _ : Below wU2.heap.size wU2 wU3)
          have s12 : wU2.heap.size = wU1.heap.size + 1 := by rw [hwU2.out]; simp
          have s23 : wU3.heap.size = wU2.heap.size + 1 := by rw [hwU3.out]; simp
          have b13 : Below wU1.heap.size wU1 wU3 := by rw [hwU3.out, hwU2.out]; exact ((Below.refl _ _).alloc (Nat.le_refl _) _).alloc (by simp) _
          have N1 : Aside0 (Kd.N Kd.string 9 wU3 wU1.heap.size (fun k => k ≠ wU2.heap.size) (.slice (some ⟨wU1.heap.size, 0, none⟩) 1 1) [p.f1]) := ⟨Kd.N_mono n1 (fun k hk => by omega)⟩
          have N2 : Aside0 (Kd.N Kd.string 9 wU3 wU1.heap.size (fun k => k ≠ wU1.heap.size) (.slice (some ⟨wU2.heap.size, 0, none⟩) 1 1) [q.f1]) := ⟨Kd.N_mono n2 (fun k hk => by omega)⟩
          have S12 := Aside0.mk s12
          have S23 := Aside0.mk s23
          have B13 := Aside0.mk b13
          clear n1 n2 s12 s23 b13 hwU1 hwU2 hwU3
          go_upto_if 57 with (fail)
          go_cut [12] from 17 (fun v12 w' => Aside0 (Kd.N Kd.string 9 w' wU1.heap.size (fun k => k ≠ wU2.heap.size) v12 (pathsS p)) ∧ Aside0 (Kd.N Kd.string 9 w' wU1.heap.size (fun k => k ≠ wU1.heap.size) (.slice (some ⟨wU2.heap.size, 0, none⟩) 1 1) [q.f1]) ∧ Aside0 (Below wU1.heap.size wU1 w'))
          case first =>
            by_cases cp : p.f0 = 10
            · skip
              have cb : (p.f0 == 10) = true := by simpa using cp
              replace cp := Aside0.mk cp
              go_wp2_with (((with_reducible refine gate_builtin (b := .append) (xs := #[.tmp 58, .tmp 61]) rfl ?_); at_builtin; refine Kd.N_append Kd.string (w0 := wU1) wU1.heap.size rfl (.tmp 58) (.tmp 61) 22 9 (.string ⟨#[]⟩) 16 rfl Tryd.underlying22 infoS rfl (by decide) (by omega) (.slice (some ⟨wU1.heap.size, 0, none⟩) 1 1) [p.f1] p.f2 [.string p.f2] (fun k => k ≠ wU2.heap.size) (fun _ => False) rfl rfl (fkS _ _ _) (fun _ hk => hk.elim) ?aF ?aO ?aB ?aS (by simp) ?_; (case aF => exact fun k hk => by have := S12.out; have := S23.out; omega); (case aO => exact N1.out); (case aB => exact B13.out); (case aS => exact B13.out.size); intro v1 x1 hN hB hg hat; have M1 := Aside0.mk hN; have M2 := Aside0.mk (Kd.N_grown N2.out hg (fun k hk e => hk (by simpa [Value.ownBlock] using e))); have M3 := Aside0.mk hB; clear hN hB hg hat))
              go_meet
              case rel => exact ⟨by rw [pathsS_ten cp.out]; exact M1, M2, M3⟩
            · skip
              have cb : (p.f0 == 10) = false := by simpa using cp
              replace cp := Aside0.mk cp
              go_wp2
              go_meet
              case rel => exact ⟨by rw [pathsS_not cp.out]; exact N1, N2, B13⟩
          case rest =>
            obtain ⟨M1, M2, M3⟩ := hcut
            clear N1 N2 B13
            clear pc0 pc1 pc2 pc3 pc4 pc5 pc6 qc0 qc1 qc2 qc3 qc4 qc5 qc6 ac0 ac1 ac2 ac3 ac4 ac5 ac6 bc0 bc1 bc2 bc3 bc4 bc5 bc6
            obtain ⟨qc0, qc1, qc2, qc3, qc4, qc5, qc6⟩ := cells7 (blk_below yq.out M3.out)
            go_upto_if 65 with (fail)
            go_cut [13] from 17 (fun v13 w' => Aside0 (Kd.N Kd.string 9 w' wU1.heap.size (fun k => k ≠ wU2.heap.size) u12 (pathsS p)) ∧ Aside0 (Kd.N Kd.string 9 w' wU1.heap.size (fun k => k ≠ wU1.heap.size) v13 (pathsS q)) ∧ Aside0 (Below wU1.heap.size wU1 w'))
            case first =>
              by_cases cp : q.f0 = 10
              · skip
                have cb : (q.f0 == 10) = true := by simpa using cp
                replace cp := Aside0.mk cp
                go_wp2_with (((with_reducible refine gate_builtin (b := .append) (xs := #[.tmp 66, .tmp 69]) rfl ?_); at_builtin; refine Kd.N_append Kd.string (w0 := wU1) wU1.heap.size rfl (.tmp 66) (.tmp 69) 22 9 (.string ⟨#[]⟩) 16 rfl Tryd.underlying22 infoS rfl (by decide) (by omega) (.slice (some ⟨wU2.heap.size, 0, none⟩) 1 1) [q.f1] q.f2 [.string q.f2] (fun k => k ≠ wU1.heap.size) (fun _ => False) rfl rfl (fkS _ _ _) (fun _ hk => hk.elim) ?aF ?aO ?aB ?aS (by simp) ?_; (case aF => exact fun k hk => by have h1 := Kd.N_lt M2.out wU2.heap.size rfl; have := S12.out; omega); (case aO => exact M2.out); (case aB => exact M3.out); (case aS => exact M3.out.size); intro v1 x1 hN hB hg hat; have L2 := Aside0.mk hN; have L1 := Aside0.mk (Kd.N_grown M1.out hg (fun k hk e => hk (by simpa [Value.ownBlock] using e))); have L3 := Aside0.mk hB; clear hN hB hg hat))
                go_meet
                case rel => exact ⟨L1, by rw [pathsS_ten cp.out]; exact L2, L3⟩
              · skip
                have cb : (q.f0 == 10) = false := by simpa using cp
                replace cp := Aside0.mk cp
                go_wp2
                go_meet
                case rel => exact ⟨M1, by rw [pathsS_not cp.out]; exact M2, M3⟩
            case rest =>
              clear qc0 qc1 qc2 qc3 qc4 qc5 qc6
              obtain ⟨L1, L2, L3⟩ := hcut
              clear M1 M2 M3
              obtain ⟨A1, e1, rfl, hc1, g1⟩ := Kd.N_reads L1.out
              obtain ⟨A2, e2, rfl, hc2, g2⟩ := Kd.N_reads L2.out
              clear L1 L2
              have hlp := Aside0.mk (paths_len p)
              have hlq := Aside0.mk (paths_len q)
              obtain ⟨pp, hpp⟩ : ∃ l, l = pathsS p := ⟨_, rfl⟩
              obtain ⟨qq, hqq⟩ : ∃ l, l = pathsS q := ⟨_, rfl⟩
              rw [← hpp] at g1 hc1 hlp ⊢
              rw [← hqq] at g2 hc2 hlq ⊢
              replace hpp := Aside0.mk hpp
              replace hqq := Aside0.mk hqq
              clear hc1 hc2
              go_wp2
              go_loopg [14, 15] pp.length (fun kq v14 v15 w' => ∃ i : Nat, v15 = .int .i64 (i : Int) ∧ v14 = .bool (apartL (pp.take i) qq) ∧ Aside0 (i + kq = pp.length) ∧ Aside0 (Below wc.heap.size wc w'))
              case atStart => exact ⟨0, rfl, rfl, ⟨by omega⟩, ⟨Below.refl _ _⟩⟩
              case round =>
                obtain ⟨i, rfl, rfl, hk, hB⟩ := hrel
                by_cases hi : i < pp.length
                · skip
                  cases gk with
                  | zero => exact absurd hk.out (by omega)
                  | succ k1 =>
                    obtain ⟨f, hf⟩ : ∃ f, apartL (pp.take i) qq = f := ⟨_, rfl⟩
                    rw [hf]
                    replace hf := Aside0.mk hf
                    have c1b : decide ((i : Int) < (pp.length : Int)) = true := decide_eq_true (by omega)
                    have i0 : (0 : Int) ≤ (i : Int) := by omega
                    have i1 : (i : Int) < (pp.length : Int) := by omega
                    obtain ⟨ad, eA, z1⟩ := Kd.at_string g1 (i : Int) i0 i1
                    subst eA
                    obtain ⟨x, hx⟩ : ∃ x, rdOf ByteArray.empty pp (i : Int) = x := ⟨_, rfl⟩
                    rw [hx] at z1
                    have hxi : Aside0 (x = pp[i]) := ⟨by rw [← hx, rdOf_str pp hi]⟩
                    clear hx
                    simp only [Int.toNat_natCast] at z1
                    replace z1 := Aside0.mk z1
                    go_wp2
                    go_loopg [14, 16] qq.length (fun kq v14 v16 w' => ∃ k : Nat, v16 = .int .i64 (k : Int) ∧ v14 = .bool (f && (qq.take k).all (fun y => apartB x y)) ∧ Aside0 (k + kq = qq.length) ∧ Aside0 (Below wc.heap.size wc w'))
                    case atStart => exact ⟨0, rfl, by simp, ⟨by omega⟩, hB⟩
                    case round =>
                      obtain ⟨k, rfl, rfl, hk2, hB2⟩ := hrel
                      by_cases hk3 : k < qq.length
                      · skip
                        cases gk with
                        | zero => exact absurd hk2.out (by omega)
                        | succ k2 =>
                          obtain ⟨g, hg⟩ : ∃ g, (f && (qq.take k).all (fun y => apartB x y)) = g := ⟨_, rfl⟩
                          rw [hg]
                          replace hg := Aside0.mk hg
                          have c2b : decide ((k : Int) < (qq.length : Int)) = true := decide_eq_true (by omega)
                          have k0 : (0 : Int) ≤ (k : Int) := by omega
                          have k1' : (k : Int) < (qq.length : Int) := by omega
                          obtain ⟨ad2, eA, z2⟩ := Kd.at_string g2 (k : Int) k0 k1'
                          subst eA
                          obtain ⟨y, hy⟩ : ∃ y, rdOf ByteArray.empty qq (k : Int) = y := ⟨_, rfl⟩
                          rw [hy] at z2
                          have hyk : Aside0 (y = qq[k]) := ⟨by rw [← hy, rdOf_str qq hk3]⟩
                          clear hy
                          simp only [Int.toNat_natCast] at z2
                          have z1a := pw_cell_below hB2.out z1.out
                          have z2a := pw_cell_below hB2.out z2
                          clear z2
                          have hnx : Aside0 ((f && (qq.take (k + 1)).all (fun y => apartB x y)) = (g && apartB x y)) := ⟨by rw [take_succ_all _ _ hk3, ← Bool.and_assoc, hg.out, hyk.out]⟩
                          cases g with
                          | false =>
                            go_wp2
                            refine wp_region_held_drew (S := fun _ => True) (by kernel_rfl) trivial (fun _ => ?_)
                            refine wpAnyH_take (i := 0) (v := .bool false) rfl (by kernel_rfl) (by kernel_rfl) (by kernel_rfl) (fun _ _ _ h => h) (Or.inl ⟨by kernel_rfl, fun w _ => by go_simp⟩) trivial ?_
                            simp only [Act.put, List.setIfInBounds_toArray, List.set_cons_zero, List.set_cons_succ]
                            refine wpAnyH_take (i := 1) (v := .bool false) rfl (by kernel_rfl) (by kernel_rfl) (by kernel_rfl) (fun _ _ _ h => h) (Or.inl ⟨by kernel_rfl, fun w _ => by go_simp⟩) trivial ?_
                            simp only [Act.put, List.setIfInBounds_toArray, List.set_cons_zero, List.set_cons_succ]
                            refine wpAnyH_take (i := 2) (v := undef) rfl (by kernel_rfl) (by kernel_rfl) (by kernel_rfl) (fun _ _ _ h => h) (Or.inr ⟨by kernel_rfl, rfl⟩) trivial ?_
                            simp only [Act.put, List.setIfInBounds_toArray, List.set_cons_zero, List.set_cons_succ]
                            refine wpAnyH_take (i := 3) (v := undef) rfl (by kernel_rfl) (by kernel_rfl) (by kernel_rfl) (fun _ _ _ h => h) (Or.inr ⟨by kernel_rfl, rfl⟩) trivial ?_
                            simp only [Act.put, List.setIfInBounds_toArray, List.set_cons_zero, List.set_cons_succ]
                            refine wpAnyH_take (i := 4) (v := undef) rfl (by kernel_rfl) (by kernel_rfl) (by kernel_rfl) (fun _ _ _ h => h) (Or.inr ⟨by kernel_rfl, rfl⟩) trivial ?_
                            simp only [Act.put, List.setIfInBounds_toArray, List.set_cons_zero, List.set_cons_succ]
                            refine wpAnyH_take (i := 5) (v := undef) rfl (by kernel_rfl) (by kernel_rfl) (by kernel_rfl) (fun _ _ _ h => h) (Or.inr ⟨by kernel_rfl, rfl⟩) trivial ?_
                            simp only [Act.put, List.setIfInBounds_toArray, List.set_cons_zero, List.set_cons_succ]
                            refine wpAnyH_take (i := 6) (v := undef) rfl (by kernel_rfl) (by kernel_rfl) (by kernel_rfl) (fun _ _ _ h => h) (Or.inr ⟨by kernel_rfl, rfl⟩) trivial ?_
                            simp only [Act.put, List.setIfInBounds_toArray, List.set_cons_zero, List.set_cons_succ]
                            refine wpAnyH_take (i := 7) (v := undef) rfl (by kernel_rfl) (by kernel_rfl) (by kernel_rfl) (fun _ _ _ h => h) (Or.inr ⟨by kernel_rfl, rfl⟩) trivial ?_
                            simp only [Act.put, List.setIfInBounds_toArray, List.set_cons_zero, List.set_cons_succ]
                            refine wpAnyH_take (i := 8) (v := undef) rfl (by kernel_rfl) (by kernel_rfl) (by kernel_rfl) (fun _ _ _ h => h) (Or.inr ⟨by kernel_rfl, rfl⟩) trivial ?_
                            simp only [Act.put, List.setIfInBounds_toArray, List.set_cons_zero, List.set_cons_succ]
                            refine wpAnyH_take (i := 9) (v := undef) rfl (by kernel_rfl) (by kernel_rfl) (by kernel_rfl) (fun _ _ _ h => h) (Or.inr ⟨by kernel_rfl, rfl⟩) trivial ?_
                            simp only [Act.put, List.setIfInBounds_toArray, List.set_cons_zero, List.set_cons_succ]
                            refine wpAnyH_take (i := 10) (v := undef) rfl (by kernel_rfl) (by kernel_rfl) (by kernel_rfl) (fun _ _ _ h => h) (Or.inr ⟨by kernel_rfl, rfl⟩) trivial ?_
                            simp only [Act.put, List.setIfInBounds_toArray, List.set_cons_zero, List.set_cons_succ]
                            refine wpAnyH_take (i := 11) (v := .bool false) rfl (by kernel_rfl) (by kernel_rfl) (by kernel_rfl) (fun _ _ _ h => h) (Or.inl ⟨by kernel_rfl, fun w _ => by go_simp⟩) trivial ?_
                            simp only [Act.put, List.setIfInBounds_toArray, List.set_cons_zero, List.set_cons_succ]
                            refine wpAnyH_take (i := 12) (v := .bool false) rfl (by kernel_rfl) (by kernel_rfl) (by kernel_rfl) (fun _ _ _ h => h) (Or.inl ⟨by kernel_rfl, fun w _ => by go_simp⟩) trivial ?_
                            simp only [Act.put, List.setIfInBounds_toArray, List.set_cons_zero, List.set_cons_succ]
                            refine wpAnyH_done (by kernel_rfl) ?_ _
                            all_goals go_wp2
                            all_goals go_roundg k2
                            all_goals first | (case measure => omega) | skip
                            all_goals exact ⟨k + 1, by first | rfl | (rw [wrap_1 hk3 hlq.out]), by rw [hnx.out]; rfl, ⟨by have := hk2.out; omega⟩, ⟨by repeat (first | exact hB2.out | exact hB2.out.drew | refine pw_below_drewN ?_ _ | refine Below.drew ?_)⟩⟩
                          | true =>
                            obtain ⟨r, hr⟩ : ∃ r, apartB x y = r := ⟨_, rfl⟩
                            have hC := fun W => counterpaneref04_Apart.calls x y r W ((rApart_f x y).trans (by rw [hr]))
                            replace hr := Aside0.mk hr
                            go_wp2
                            go_region_held3 (fun w' => w'.cell? (ad.add i) = some (.string x) ∧ w'.cell? (ad2.add k) = some (.string y)) (first | exact ⟨z1a, z2a⟩ | (simp [*]; done)) ((go_at_call 28; refine (hC _).mono ?_; rintro e w' ⟨rfl, m, rfl⟩))
                            all_goals go_wp2
                            all_goals go_roundg k2
                            all_goals first | (case measure => omega) | skip
                            all_goals exact ⟨k + 1, by first | rfl | (rw [wrap_1 hk3 hlq.out]), by rw [hnx.out, hr.out]; rfl, ⟨by have := hk2.out; omega⟩, ⟨by repeat (first | exact hB2.out | exact hB2.out.drew | refine pw_below_drewN ?_ _ | refine Below.drew ?_)⟩⟩
                      · skip
                        have c2b : decide ((k : Int) < (qq.length : Int)) = false := decide_eq_false (by omega)
                        go_wp2
                        go_roundg k1
                        case measure => omega
                        case rel => exact ⟨i + 1, by first | rfl | (rw [wrap_1 hi hlp.out]), by unfold apartL; rw [take_succ_all _ _ hi, List.take_of_length_le (by omega), ← hxi.out]; exact congrArg (fun t => Value.bool (t && qq.all (fun y => apartB x y))) hf.out.symm, ⟨by have := hk.out; omega⟩, hB2⟩
                · skip
                  have c1b : decide ((i : Int) < (pp.length : Int)) = false := decide_eq_false (by omega)
                  rw [List.take_of_length_le (by omega)]
                  obtain ⟨f, hf⟩ : ∃ f, apartL pp qq = f := ⟨_, rfl⟩
                  rw [hf]
                  replace hf := Aside0.mk hf
                  have hz : Aside0 (Below w.heap.size w wr) := ⟨hw8.trans (L3.out.mono hw8.size |>.trans (hB.out.mono (Nat.le_trans hw8.size L3.out.size)))⟩
                  cases f with
                  | false =>
                    go_wp2
                    go_ret
                    exact ⟨rfl, hz.out⟩
                  | true =>
                    have hcc := hcm.out.symm.trans (comm_apart bp.out bq.out (by rw [← hpp.out, ← hqq.out]; exact hf.out))
                    obtain ⟨rfl, rfl, rfl⟩ := prod3 hcc
                    have hbU : Below wU1.heap.size wU1 wr := L3.out.trans (hB.out.mono L3.out.size)
                    have xp := blk_below yp.out hbU
                    have xq := blk_below yq.out hbU
                    have xa := blk_below ya.out hbU
                    have xb := blk_below yb.out hbU
                    have rp := yrp.out.below hbU
                    have rq := yrq.out.below hbU
                    have ra := yra.out.below hbU
                    have rb := yrb.out.below hbU
                    have hzz := hz.out
                    obtain ⟨pc0, pc1, pc2, pc3, pc4, pc5, pc6⟩ := cells7 xp
                    obtain ⟨qc0, qc1, qc2, qc3, qc4, qc5, qc6⟩ := cells7 xq
                    obtain ⟨ac0, ac1, ac2, ac3, ac4, ac5, ac6⟩ := cells7 xa
                    obtain ⟨bc0, bc1, bc2, bc3, bc4, bc5, bc6⟩ := cells7 xb
                    go_wp2_with (fail)
                    refine (same_at a X5 x5 X6 x6 B5 b5 B6 b6 _ hq (ra.below (by repeat (first | exact Below.refl _ _ | refine Below.setCell ?_ (by simp <;> omega) _ | refine Below.alloc ?_ (by simp <;> omega) _ | refine Below.drew ?_))) (rq.below (by repeat (first | exact Below.refl _ _ | refine Below.setCell ?_ (by simp <;> omega) _ | refine Below.alloc ?_ (by simp <;> omega) _ | refine Below.drew ?_)))).mono ?_
                    rintro e w21 ⟨rfl, hb21⟩
                    clear pc0 pc1 pc2 pc3 pc4 pc5 pc6 qc0 qc1 qc2 qc3 qc4 qc5 qc6 ac0 ac1 ac2 ac3 ac4 ac5 ac6 bc0 bc1 bc2 bc3 bc4 bc5 bc6
                    have hs21 : Below wr.heap.size wr w21 := two_steps (by repeat (first | exact Below.refl _ _ | refine Below.setCell ?_ (by simp <;> omega) _ | refine Below.alloc ?_ (by simp <;> omega) _ | refine Below.drew ?_)) hb21
                    have hw21 : Below w.heap.size w w21 := hzz.trans (hs21.mono hzz.size)
                    have xp := blk_below xp hs21
                    have xq := blk_below xq hs21
                    have xa := blk_below xa hs21
                    have xb := blk_below xb hs21
                    have rp := rp.below hs21
                    have rq := rq.below hs21
                    have ra := ra.below hs21
                    have rb := rb.below hs21
                    obtain ⟨pc0, pc1, pc2, pc3, pc4, pc5, pc6⟩ := cells7 xp
                    obtain ⟨qc0, qc1, qc2, qc3, qc4, qc5, qc6⟩ := cells7 xq
                    obtain ⟨ac0, ac1, ac2, ac3, ac4, ac5, ac6⟩ := cells7 xa
                    obtain ⟨bc0, bc1, bc2, bc3, bc4, bc5, bc6⟩ := cells7 xb
                    go_wp2_with (fail)
                    refine (same_at b Y5 y5 Y6 y6 A5 a5 A6 a6 _ hp (rb.below (by repeat (first | exact Below.refl _ _ | refine Below.setCell ?_ (by simp <;> omega) _ | refine Below.alloc ?_ (by simp <;> omega) _ | refine Below.drew ?_))) (rp.below (by repeat (first | exact Below.refl _ _ | refine Below.setCell ?_ (by simp <;> omega) _ | refine Below.alloc ?_ (by simp <;> omega) _ | refine Below.drew ?_)))).mono ?_
                    rintro e w22 ⟨rfl, hb22⟩
                    clear pc0 pc1 pc2 pc3 pc4 pc5 pc6 qc0 qc1 qc2 qc3 qc4 qc5 qc6 ac0 ac1 ac2 ac3 ac4 ac5 ac6 bc0 bc1 bc2 bc3 bc4 bc5 bc6
                    have hs22 : Below w21.heap.size w21 w22 := two_steps (by repeat (first | exact Below.refl _ _ | refine Below.setCell ?_ (by simp <;> omega) _ | refine Below.alloc ?_ (by simp <;> omega) _ | refine Below.drew ?_)) hb22
                    have hw22 : Below w.heap.size w w22 := hw21.trans (hs22.mono hw21.size)
                    have xp := blk_below xp hs22
                    have xq := blk_below xq hs22
                    have xa := blk_below xa hs22
                    have xb := blk_below xb hs22
                    have rp := rp.below hs22
                    have rq := rq.below hs22
                    have ra := ra.below hs22
                    have rb := rb.below hs22
                    obtain ⟨pc0, pc1, pc2, pc3, pc4, pc5, pc6⟩ := cells7 xp
                    obtain ⟨qc0, qc1, qc2, qc3, qc4, qc5, qc6⟩ := cells7 xq
                    obtain ⟨ac0, ac1, ac2, ac3, ac4, ac5, ac6⟩ := cells7 xa
                    obtain ⟨bc0, bc1, bc2, bc3, bc4, bc5, bc6⟩ := cells7 xb
                    go_wp2
                    go_ret
                    exact ⟨rfl, by repeat (first | with_reducible exact hw22 | refine Below.setCell ?_ (by have := hw22.size; simp <;> omega) _ | refine Below.alloc ?_ (by have := hw22.size; simp <;> omega) _ | refine Below.drew ?_)⟩
end Go.Proofs.YthhohbidjhcjeaaDoor.H
