/- The walk of law 10's CommuteBack: whatever the two patches, it answers true. -/
import Derived.Test.YthhohbidjhcjeaaDoorCl
namespace Go.Proofs.YthhohbidjhcjeaaDoor.H
open Go.RowKit Go.Proofs.YthhohbidjhcjeaaDoorW.PrintWords Go.Proofs.YthhohbidjhcjeaaDoorW.PrintLast Go.Proofs.YthhohbidjhcjeaaDoorW.PrintMore
open Go.Proofs.YthhohbidjhcjeaaDoor.Q Go.Proofs.YthhohbidjhcjeaaDoor.Pl
set_option maxHeartbeats 4000000 in
set_option maxRecDepth 100000 in
theorem back_calls (p q : S24) (A5 : Option Addr) (a5 : Nat) (A6 : Option Addr) (a6 : Nat) (B5 : Option Addr) (b5 : Nat) (B6 : Option Addr) (b6 : Nat) (w : World) (hp : Okp p) (hq : Okp q) (rp : Rd w p A5 a5 A6 a6) (rq : Rd w q B5 b5 B6 b6) :
    Calls Tryd.prog 5 #[.agg #[.int .i64 p.f0, .string p.f1, .string p.f2, .string p.f3, .int .i64 p.f4, .slice A5 p.f5.length a5, .slice A6 p.f6.length a6], .agg #[.int .i64 q.f0, .string q.f1, .string q.f2, .string q.f3, .int .i64 q.f4, .slice B5 q.f5.length b5, .slice B6 q.f6.length b6]] w fun e w' => e = .returned (.bool true) ∧ Below w.heap.size w w' := by
  go_enter Tryd.func5, Tryd.ntmps5
  go_wp2_with (fail)
  refine (head10_calls _).mono ?_
  rintro e w1 ⟨rfl, hb1⟩
  have hs1 : Below w.heap.size w w1 := two_steps (by repeat (first | exact Below.refl _ _ | refine Below.setCell ?_ (by simp <;> omega) _ | refine Below.alloc ?_ (by simp <;> omega) _ | refine Below.drew ?_)) hb1
  have hw1 : Below w.heap.size w w1 := (Below.refl w.heap.size w).trans (hs1.mono (Below.refl w.heap.size w).size)
  have rp := rp.below hs1
  have rq := rq.below hs1
  have xp : w1.heap[w.heap.size]? = some (.cells #[.int .i64 p.f0, .string p.f1, .string p.f2, .string p.f3, .int .i64 p.f4, .slice A5 p.f5.length a5, .slice A6 p.f6.length a6] 24 (0, 0)) := blk_below (box1 w _ _) hb1
  have xq : w1.heap[w.heap.size + 1]? = some (.cells #[.int .i64 q.f0, .string q.f1, .string q.f2, .string q.f3, .int .i64 q.f4, .slice B5 q.f5.length b5, .slice B6 q.f6.length b6] 24 (0, 0)) := blk_below (box2 w _ _) hb1
  obtain ⟨pc0, pc1, pc2, pc3, pc4, pc5, pc6⟩ := cells7 xp
  obtain ⟨qc0, qc1, qc2, qc3, qc4, qc5, qc6⟩ := cells7 xq
  go_wp2_with (fail)
  obtain ⟨r, -, hg⟩ := great_at p A5 a5 A6 a6 w1 hp rp
  refine hg.mono ?_
  rintro e w2 ⟨rfl, hb2⟩
  clear pc0 pc1 pc2 pc3 pc4 pc5 pc6 qc0 qc1 qc2 qc3 qc4 qc5 qc6
  have hs2 : Below w1.heap.size w1 w2 := two_steps (by repeat (first | exact Below.refl _ _ | refine Below.setCell ?_ (by simp <;> omega) _ | refine Below.alloc ?_ (by simp <;> omega) _ | refine Below.drew ?_)) hb2
  have hw2 : Below w.heap.size w w2 := hw1.trans (hs2.mono hw1.size)
  have xp := blk_below xp hs2
  have xq := blk_below xq hs2
  have rp := rp.below hs2
  have rq := rq.below hs2
  obtain ⟨pc0, pc1, pc2, pc3, pc4, pc5, pc6⟩ := cells7 xp
  obtain ⟨qc0, qc1, qc2, qc3, qc4, qc5, qc6⟩ := cells7 xq
  cases r with
  | true =>
    go_wp2
    go_ret
    exact ⟨rfl, by repeat (first | with_reducible exact hw2 | refine Below.setCell ?_ (by have := hw2.size; simp <;> omega) _ | refine Below.alloc ?_ (by have := hw2.size; simp <;> omega) _ | refine Below.drew ?_)⟩
  | false =>
    go_wp2_with (fail)
    obtain ⟨r, -, hg⟩ := great_at q B5 b5 B6 b6 w2 hq rq
    refine hg.mono ?_
    rintro e w3 ⟨rfl, hb3⟩
    clear pc0 pc1 pc2 pc3 pc4 pc5 pc6 qc0 qc1 qc2 qc3 qc4 qc5 qc6
    have hs3 : Below w2.heap.size w2 w3 := two_steps (by repeat (first | exact Below.refl _ _ | refine Below.setCell ?_ (by simp <;> omega) _ | refine Below.alloc ?_ (by simp <;> omega) _ | refine Below.drew ?_)) hb3
    have hw3 : Below w.heap.size w w3 := hw2.trans (hs3.mono hw2.size)
    have xp := blk_below xp hs3
    have xq := blk_below xq hs3
    have rp := rp.below hs3
    have rq := rq.below hs3
    obtain ⟨pc0, pc1, pc2, pc3, pc4, pc5, pc6⟩ := cells7 xp
    obtain ⟨qc0, qc1, qc2, qc3, qc4, qc5, qc6⟩ := cells7 xq
    cases r with
    | true =>
      go_wp2
      go_ret
      exact ⟨rfl, by repeat (first | with_reducible exact hw3 | refine Below.setCell ?_ (by have := hw3.size; simp <;> omega) _ | refine Below.alloc ?_ (by have := hw3.size; simp <;> omega) _ | refine Below.drew ?_)⟩
    | false =>
      go_wp2_with (fail)
      refine (comm_at p q A5 a5 A6 a6 B5 b5 B6 b6 _ hp hq (rp.below (by repeat (first | exact Below.refl _ _ | refine Below.setCell ?_ (by simp <;> omega) _ | refine Below.alloc ?_ (by simp <;> omega) _ | refine Below.drew ?_))) (rq.below (by repeat (first | exact Below.refl _ _ | refine Below.setCell ?_ (by simp <;> omega) _ | refine Below.alloc ?_ (by simp <;> omega) _ | refine Below.drew ?_)))).mono ?_
      rintro e w4 ⟨h4, hb4⟩
      clear pc0 pc1 pc2 pc3 pc4 pc5 pc6 qc0 qc1 qc2 qc3 qc4 qc5 qc6
      have hs4 : Below w3.heap.size w3 w4 := two_steps (by repeat (first | exact Below.refl _ _ | refine Below.setCell ?_ (by simp <;> omega) _ | refine Below.alloc ?_ (by simp <;> omega) _ | refine Below.drew ?_)) hb4
      have hw4 : Below w.heap.size w w4 := hw3.trans (hs4.mono hw3.size)
      have xp := blk_below xp hs4
      have xq := blk_below xq hs4
      have rp := rp.below hs4
      have rq := rq.below hs4
      obtain ⟨pc0, pc1, pc2, pc3, pc4, pc5, pc6⟩ := cells7 xp
      obtain ⟨qc0, qc1, qc2, qc3, qc4, qc5, qc6⟩ := cells7 xq
      rcases h4 with ⟨hn, rfl⟩ | ⟨a, b, hy, rfl⟩
      · skip
        go_wp2
        go_ret
        exact ⟨rfl, by repeat (first | with_reducible exact hw4 | refine Below.setCell ?_ (by have := hw4.size; simp <;> omega) _ | refine Below.alloc ?_ (by have := hw4.size; simp <;> omega) _ | refine Below.drew ?_)⟩
      · skip
        obtain ⟨kb, ka⟩ := rule_keep hy.r
        have ra : Rd w4 a B5 b5 B6 b6 := rq.of (by rw [ka]) (by rw [ka])
        have rb : Rd w4 b A5 a5 A6 a6 := rp.of (by rw [kb]) (by rw [kb])
        clear ka kb
        obtain ⟨oa, ob⟩ := okp_yes hy hp hq
        obtain ⟨pd0, pd1, pd2, pd3, pd4, pd5, pd6⟩ := deep2 xp
        obtain ⟨qd0, qd1, qd2, qd3, qd4, qd5, qd6⟩ := deep2 xq
        go_wp2_with (fail)
        refine (right_at a B5 b5 B6 b6 _ oa (ra.below (by repeat (first | exact Below.refl _ _ | refine Below.setCell ?_ (by simp <;> omega) _ | refine Below.alloc ?_ (by simp <;> omega) _ | refine Below.drew ?_)))).mono ?_
        rintro e w5 ⟨rfl, hb5⟩
        clear pc0 pc1 pc2 pc3 pc4 pc5 pc6 qc0 qc1 qc2 qc3 qc4 qc5 qc6 pd0 pd1 pd2 pd3 pd4 pd5 pd6 qd0 qd1 qd2 qd3 qd4 qd5 qd6
        have hs5 : Below w4.heap.size w4 w5 := two_steps (by repeat (first | exact Below.refl _ _ | refine Below.setCell ?_ (by simp <;> omega) _ | refine Below.alloc ?_ (by simp <;> omega) _ | refine Below.drew ?_)) hb5
        have hw5 : Below w.heap.size w w5 := hw4.trans (hs5.mono hw4.size)
        have xp := blk_below xp hs5
        have xq := blk_below xq hs5
        have rp := rp.below hs5
        have rq := rq.below hs5
        have ra := ra.below hs5
        have rb := rb.below hs5
        have xa : w5.heap[w4.heap.size]? = some (.cells #[.int .i64 a.f0, .string a.f1, .string a.f2, .string a.f3, .int .i64 a.f4, .slice B5 a.f5.length b5, .slice B6 a.f6.length b6] 24 (0, 0)) := blk_below (box1 w4 _ _) hb5
        have xb : w5.heap[w4.heap.size + 1]? = some (.cells #[.int .i64 b.f0, .string b.f1, .string b.f2, .string b.f3, .int .i64 b.f4, .slice A5 b.f5.length a5, .slice A6 b.f6.length a6] 24 (0, 0)) := blk_below (box2 w4 _ _) hb5
        obtain ⟨pc0, pc1, pc2, pc3, pc4, pc5, pc6⟩ := cells7 xp
        obtain ⟨qc0, qc1, qc2, qc3, qc4, qc5, qc6⟩ := cells7 xq
        obtain ⟨ac0, ac1, ac2, ac3, ac4, ac5, ac6⟩ := cells7 xa
        obtain ⟨bc0, bc1, bc2, bc3, bc4, bc5, bc6⟩ := cells7 xb
        rw [hy.ha]
        go_wp2_with (fail)
        refine (right_at b A5 a5 A6 a6 _ ob (rb.below (by repeat (first | exact Below.refl _ _ | refine Below.setCell ?_ (by simp <;> omega) _ | refine Below.alloc ?_ (by simp <;> omega) _ | refine Below.drew ?_)))).mono ?_
        rintro e w6 ⟨rfl, hb6⟩
        clear pc0 pc1 pc2 pc3 pc4 pc5 pc6 qc0 qc1 qc2 qc3 qc4 qc5 qc6 ac0 ac1 ac2 ac3 ac4 ac5 ac6 bc0 bc1 bc2 bc3 bc4 bc5 bc6
        have hs6 : Below w5.heap.size w5 w6 := two_steps (by repeat (first | exact Below.refl _ _ | refine Below.setCell ?_ (by simp <;> omega) _ | refine Below.alloc ?_ (by simp <;> omega) _ | refine Below.drew ?_)) hb6
        have hw6 : Below w.heap.size w w6 := hw5.trans (hs6.mono hw5.size)
        have xp := blk_below xp hs6
        have xq := blk_below xq hs6
        have xa := blk_below xa hs6
        have xb := blk_below xb hs6
        have rp := rp.below hs6
        have rq := rq.below hs6
        have ra := ra.below hs6
        have rb := rb.below hs6
        obtain ⟨pc0, pc1, pc2, pc3, pc4, pc5, pc6⟩ := cells7 xp
        obtain ⟨qc0, qc1, qc2, qc3, qc4, qc5, qc6⟩ := cells7 xq
        obtain ⟨ac0, ac1, ac2, ac3, ac4, ac5, ac6⟩ := cells7 xa
        obtain ⟨bc0, bc1, bc2, bc3, bc4, bc5, bc6⟩ := cells7 xb
        rw [hy.hb]
        have hz := yes_back hp.ok hq.ok hy
        go_wp2_with (fail)
        refine (comm_at a b B5 b5 B6 b6 A5 a5 A6 a6 _ oa ob (ra.below (by repeat (first | exact Below.refl _ _ | refine Below.setCell ?_ (by simp <;> omega) _ | refine Below.alloc ?_ (by simp <;> omega) _ | refine Below.drew ?_))) (rb.below (by repeat (first | exact Below.refl _ _ | refine Below.setCell ?_ (by simp <;> omega) _ | refine Below.alloc ?_ (by simp <;> omega) _ | refine Below.drew ?_)))).mono ?_
        rintro e w7 ⟨h4, hb7⟩
        clear pc0 pc1 pc2 pc3 pc4 pc5 pc6 qc0 qc1 qc2 qc3 qc4 qc5 qc6 ac0 ac1 ac2 ac3 ac4 ac5 ac6 bc0 bc1 bc2 bc3 bc4 bc5 bc6
        have hs7 : Below w6.heap.size w6 w7 := two_steps (by repeat (first | exact Below.refl _ _ | refine Below.setCell ?_ (by simp <;> omega) _ | refine Below.alloc ?_ (by simp <;> omega) _ | refine Below.drew ?_)) hb7
        have hw7 : Below w.heap.size w w7 := hw6.trans (hs7.mono hw6.size)
        have xp := blk_below xp hs7
        have xq := blk_below xq hs7
        have xa := blk_below xa hs7
        have xb := blk_below xb hs7
        have rp := rp.below hs7
        have rq := rq.below hs7
        have ra := ra.below hs7
        have rb := rb.below hs7
        obtain ⟨pc0, pc1, pc2, pc3, pc4, pc5, pc6⟩ := cells7 xp
        obtain ⟨qc0, qc1, qc2, qc3, qc4, qc5, qc6⟩ := cells7 xq
        obtain ⟨ac0, ac1, ac2, ac3, ac4, ac5, ac6⟩ := cells7 xa
        obtain ⟨bc0, bc1, bc2, bc3, bc4, bc5, bc6⟩ := cells7 xb
        rcases h4 with ⟨hn, rfl⟩ | ⟨c, d, h2, rfl⟩
        · skip
          rw [comm_of hz] at hn
          cases hn
        · skip
          have hcd := (comm_of h2).symm.trans (comm_of hz)
          obtain ⟨rfl, rfl, -⟩ := prod3 hcd
          obtain ⟨pd0, pd1, pd2, pd3, pd4, pd5, pd6⟩ := deep2 xp
          obtain ⟨qd0, qd1, qd2, qd3, qd4, qd5, qd6⟩ := deep2 xq
          obtain ⟨ad0, ad1, ad2, ad3, ad4, ad5, ad6⟩ := deep2 xa
          obtain ⟨bd0, bd1, bd2, bd3, bd4, bd5, bd6⟩ := deep2 xb
          go_wp2_with (fail)
          refine (same_at c A5 a5 A6 a6 A5 a5 A6 a6 _ hp (rp.below (by repeat (first | exact Below.refl _ _ | refine Below.setCell ?_ (by simp <;> omega) _ | refine Below.alloc ?_ (by simp <;> omega) _ | refine Below.drew ?_))) (rp.below (by repeat (first | exact Below.refl _ _ | refine Below.setCell ?_ (by simp <;> omega) _ | refine Below.alloc ?_ (by simp <;> omega) _ | refine Below.drew ?_)))).mono ?_
          rintro e w8 ⟨rfl, hb8⟩
          clear pc0 pc1 pc2 pc3 pc4 pc5 pc6 qc0 qc1 qc2 qc3 qc4 qc5 qc6 ac0 ac1 ac2 ac3 ac4 ac5 ac6 bc0 bc1 bc2 bc3 bc4 bc5 bc6 pd0 pd1 pd2 pd3 pd4 pd5 pd6 qd0 qd1 qd2 qd3 qd4 qd5 qd6 ad0 ad1 ad2 ad3 ad4 ad5 ad6 bd0 bd1 bd2 bd3 bd4 bd5 bd6
          have hs8 : Below w7.heap.size w7 w8 := two_steps (by repeat (first | exact Below.refl _ _ | refine Below.setCell ?_ (by simp <;> omega) _ | refine Below.alloc ?_ (by simp <;> omega) _ | refine Below.drew ?_)) hb8
          have hw8 : Below w.heap.size w w8 := hw7.trans (hs8.mono hw7.size)
          have xp := blk_below xp hs8
          have xq := blk_below xq hs8
          have xa := blk_below xa hs8
          have xb := blk_below xb hs8
          have rp := rp.below hs8
          have rq := rq.below hs8
          have ra := ra.below hs8
          have rb := rb.below hs8
          have xc : w8.heap[w7.heap.size]? = some (.cells #[.int .i64 c.f0, .string c.f1, .string c.f2, .string c.f3, .int .i64 c.f4, .slice A5 c.f5.length a5, .slice A6 c.f6.length a6] 24 (0, 0)) := blk_below (box1 w7 _ _) hb8
          have xd : w8.heap[w7.heap.size + 1]? = some (.cells #[.int .i64 d.f0, .string d.f1, .string d.f2, .string d.f3, .int .i64 d.f4, .slice B5 d.f5.length b5, .slice B6 d.f6.length b6] 24 (0, 0)) := blk_below (box2 w7 _ _) hb8
          obtain ⟨pc0, pc1, pc2, pc3, pc4, pc5, pc6⟩ := cells7 xp
          obtain ⟨qc0, qc1, qc2, qc3, qc4, qc5, qc6⟩ := cells7 xq
          obtain ⟨ac0, ac1, ac2, ac3, ac4, ac5, ac6⟩ := cells7 xa
          obtain ⟨bc0, bc1, bc2, bc3, bc4, bc5, bc6⟩ := cells7 xb
          obtain ⟨cc0, cc1, cc2, cc3, cc4, cc5, cc6⟩ := cells7 xc
          obtain ⟨dc0, dc1, dc2, dc3, dc4, dc5, dc6⟩ := cells7 xd
          go_wp2_with (fail)
          refine (same_at d B5 b5 B6 b6 B5 b5 B6 b6 _ hq (rq.below (by repeat (first | exact Below.refl _ _ | refine Below.setCell ?_ (by simp <;> omega) _ | refine Below.alloc ?_ (by simp <;> omega) _ | refine Below.drew ?_))) (rq.below (by repeat (first | exact Below.refl _ _ | refine Below.setCell ?_ (by simp <;> omega) _ | refine Below.alloc ?_ (by simp <;> omega) _ | refine Below.drew ?_)))).mono ?_
          rintro e w9 ⟨rfl, hb9⟩
          clear pc0 pc1 pc2 pc3 pc4 pc5 pc6 qc0 qc1 qc2 qc3 qc4 qc5 qc6 ac0 ac1 ac2 ac3 ac4 ac5 ac6 bc0 bc1 bc2 bc3 bc4 bc5 bc6 cc0 cc1 cc2 cc3 cc4 cc5 cc6 dc0 dc1 dc2 dc3 dc4 dc5 dc6
          have hs9 : Below w8.heap.size w8 w9 := two_steps (by repeat (first | exact Below.refl _ _ | refine Below.setCell ?_ (by simp <;> omega) _ | refine Below.alloc ?_ (by simp <;> omega) _ | refine Below.drew ?_)) hb9
          have hw9 : Below w.heap.size w w9 := hw8.trans (hs9.mono hw8.size)
          have xp := blk_below xp hs9
          have xq := blk_below xq hs9
          have xa := blk_below xa hs9
          have xb := blk_below xb hs9
          have xc := blk_below xc hs9
          have xd := blk_below xd hs9
          have rp := rp.below hs9
          have rq := rq.below hs9
          have ra := ra.below hs9
          have rb := rb.below hs9
          obtain ⟨pc0, pc1, pc2, pc3, pc4, pc5, pc6⟩ := cells7 xp
          obtain ⟨qc0, qc1, qc2, qc3, qc4, qc5, qc6⟩ := cells7 xq
          obtain ⟨ac0, ac1, ac2, ac3, ac4, ac5, ac6⟩ := cells7 xa
          obtain ⟨bc0, bc1, bc2, bc3, bc4, bc5, bc6⟩ := cells7 xb
          obtain ⟨cc0, cc1, cc2, cc3, cc4, cc5, cc6⟩ := cells7 xc
          obtain ⟨dc0, dc1, dc2, dc3, dc4, dc5, dc6⟩ := cells7 xd
          go_wp2
          go_ret
          exact ⟨rfl, by repeat (first | with_reducible exact hw9 | refine Below.setCell ?_ (by have := hw9.size; simp <;> omega) _ | refine Below.alloc ?_ (by have := hw9.size; simp <;> omega) _ | refine Below.drew ?_)⟩
end Go.Proofs.YthhohbidjhcjeaaDoor.H
