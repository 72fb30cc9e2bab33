/- The walk of law 10's CommuteLines: whatever the two changes, it answers true. -/
import Derived.Test.YthhohbidjhcjeaaDoorCl
namespace Go.Proofs.YthhohbidjhcjeaaDoor.H
open Go.RowKit Go.Proofs.YthhohbidjhcjeaaDoorW.PrintWords Go.Proofs.YthhohbidjhcjeaaDoorW.PrintLast Go.Proofs.YthhohbidjhcjeaaDoorW.PrintMore
open Go.Proofs.YthhohbidjhcjeaaDoor.Q Go.Proofs.YthhohbidjhcjeaaDoor.Pl
/-- A change of lines of the text that the law takes. -/
abbrev PL (a : Int) (o n : List ByteArray) : S24 := ⟨7, ⟨#[97]⟩, ⟨#[]⟩, ⟨#[]⟩, a, o, n⟩
theorem wrap64_id {i : Int} (h0 : -9223372036854775808 ≤ i) (h : i ≤ 9223372036854775807) : IntKind.i64.wrap i = i := by rw [IntKind.wrap_i64]; omega
theorem right_a : rightB ⟨#[97]⟩ = true := by decide +kernel
theorem primB_PL (x : Int) (g c : List ByteArray) : primB (PL x g c) = (decide (x ≥ 0) && decide (x ≤ 1073741824) && linesB g && linesB c && decide (0 < g.length + c.length)) := by
  have e : (⟨#[]⟩ : ByteArray).toList = ([] : List UInt8) := by rw [toList_data]
  unfold primB kindB
  dsimp only
  rw [if_neg (by decide), if_neg (by decide), if_pos e, if_neg (by decide), if_pos rfl, right_a, e]
  simp
theorem primB_at {t x : Int} {g c : List ByteArray} (h : primB (PL t g c) = true) (h0 : 0 ≤ x) (h1 : x ≤ 1073741824) : primB (PL x g c) = true := by
  rw [primB_PL] at h ⊢
  simp only [Bool.and_eq_true, decide_eq_true_eq] at h ⊢
  exact ⟨⟨⟨⟨h0, h1⟩, h.1.1.2⟩, h.1.2⟩, h.2⟩
theorem rule_PL (a t : Int) (o n g c : List ByteArray) : ruleS (PL a o n) (PL t g c) = bothS (PL a o n) (PL t g c) := by
  unfold ruleS
  rw [if_neg (by show ¬ (7 : Int) = 10; decide), if_pos (by show (7 : Int) ≤ 7; decide), if_neg (by show ¬ (7 : Int) = 10; decide), if_pos (by show (7 : Int) ≤ 7; decide)]
theorem both_PL (a t : Int) (o n g c : List ByteArray) (a0 : 0 ≤ a) (a1 : a ≤ 65535) (t0 : 0 ≤ t) (t1 : t ≤ 65535) (h1 : o.length + n.length < 4000) (h2 : g.length + c.length < 4000) :
    bothS (PL a o n) (PL t g c) = if t - (n.length : Int) > a then (PL a o n, PL (t - (n.length : Int) + (o.length : Int)) g c, true) else if a - (g.length : Int) > t then (PL (a - (g.length : Int) + (c.length : Int)) o n, PL t g c, true) else (PL a o n, PL t g c, false) := by
  have e1 : wrap64 (t - (n.length : Int)) = t - (n.length : Int) := wrap_id (by omega) (by omega)
  have e2 : wrap64 (a - (g.length : Int)) = a - (g.length : Int) := wrap_id (by omega) (by omega)
  have e3 : wrap64 ((o.length : Int) - (n.length : Int)) = (o.length : Int) - (n.length : Int) := wrap_id (by omega) (by omega)
  have e4 : wrap64 (t + ((o.length : Int) - (n.length : Int))) = t - (n.length : Int) + (o.length : Int) := by rw [wrap_id (by omega) (by omega)]; omega
  have e5 : wrap64 ((c.length : Int) - (g.length : Int)) = (c.length : Int) - (g.length : Int) := wrap_id (by omega) (by omega)
  have e6 : wrap64 (a + ((c.length : Int) - (g.length : Int))) = a - (g.length : Int) + (c.length : Int) := by rw [wrap_id (by omega) (by omega)]; omega
  unfold bothS
  dsimp only
  rw [if_pos rfl, if_pos ⟨rfl, rfl⟩, e1, e2, e3, e4, e5, e6]
theorem yes_behind {a t : Int} {o n g c : List ByteArray} (hp : primB (PL a o n) = true) (hq : primB (PL t g c) = true) (a0 : 0 ≤ a) (a1 : a ≤ 65535) (t0 : 0 ≤ t) (t1 : t ≤ 65535) (h1 : o.length + n.length < 4000) (h2 : g.length + c.length < 4000) (h : t - (n.length : Int) > a) :
    Yes (PL a o n) (PL t g c) (PL (t - (n.length : Int) + (o.length : Int)) g c) (PL a o n) :=
  ⟨hp, hq, primB_at hq (by omega) (by omega), hp, by rw [rule_PL, both_PL a t o n g c a0 a1 t0 t1 h1 h2, if_pos h]⟩
theorem yes_ahead {a t : Int} {o n g c : List ByteArray} (hp : primB (PL a o n) = true) (hq : primB (PL t g c) = true) (a0 : 0 ≤ a) (a1 : a ≤ 65535) (t0 : 0 ≤ t) (t1 : t ≤ 65535) (h1 : o.length + n.length < 4000) (h2 : g.length + c.length < 4000) (hn : ¬ t - (n.length : Int) > a) (h : a - (g.length : Int) > t) :
    Yes (PL a o n) (PL t g c) (PL t g c) (PL (a - (g.length : Int) + (c.length : Int)) o n) :=
  ⟨hp, hq, hq, primB_at hp (by omega) (by omega), by rw [rule_PL, both_PL a t o n g c a0 a1 t0 t1 h1 h2, if_neg hn, if_pos h]⟩
theorem no_lines {a t : Int} {o n g c : List ByteArray} (a0 : 0 ≤ a) (a1 : a ≤ 65535) (t0 : 0 ≤ t) (t1 : t ≤ 65535) (h1 : o.length + n.length < 4000) (h2 : g.length + c.length < 4000) (hn : ¬ t - (n.length : Int) > a) (h : ¬ a - (g.length : Int) > t) : (comm (PL a o n) (PL t g c)).2.2 = false := by
  rcases comm_or (PL a o n) (PL t g c) with e | ⟨x, y, hy, -⟩
  · rw [e]
  · have hr := hy.r
    rw [rule_PL, both_PL a t o n g c a0 a1 t0 t1 h1 h2, if_neg hn, if_neg h] at hr
    cases (prod3 hr).2.2
set_option maxHeartbeats 4000000 in
set_option maxRecDepth 100000 in
theorem lines10_calls (a t : Int) (o n g c : List ByteArray) (A5 : Option Addr) (a5 : Nat) (A6 : Option Addr) (a6 : Nat) (B5 : Option Addr) (b5 : Nat) (B6 : Option Addr) (b6 : Nat) (w : World) (a0 : 0 ≤ a) (a1 : a ≤ 65535) (t0 : 0 ≤ t) (t1 : t ≤ 65535) (hp : Okp (PL a o n)) (hq : Okp (PL t g c)) (rp : Rd w (PL a o n) A5 a5 A6 a6) (rq : Rd w (PL t g c) B5 b5 B6 b6) :
    Calls Tryd.prog 8 #[.int .u16 a, .slice A5 o.length a5, .slice A6 n.length a6, .int .u16 t, .slice B5 g.length b5, .slice B6 c.length b6] w fun e w' => e = .returned (.bool true) ∧ Below w.heap.size w w' := by
  have wa : IntKind.i64.wrap a = a := wrap64_id (by omega) (by omega)
  have wt : IntKind.i64.wrap t = t := wrap64_id (by omega) (by omega)
  go_enter Tryd.func8, Tryd.ntmps8
  go_wp2_with (fail)
  refine (head10_calls _).mono ?_
  rintro e w1 ⟨rfl, hb1⟩
  have hs1 : Below w.heap.size w w1 := two_steps (by repeat (first | exact Below.refl _ _ | refine Below.setCell ?_ (by simp <;> omega) _ | refine Below.alloc ?_ (by simp <;> omega) _ | refine Below.drew ?_)) hb1
  have hw1 : Below w.heap.size w w1 := (Below.refl w.heap.size w).trans (hs1.mono (Below.refl w.heap.size w).size)
  have rp := rp.below hs1
  have rq := rq.below hs1
  go_wp2_with (fail)
  obtain ⟨r, gl1, hg⟩ := great_at (PL a o n) A5 a5 A6 a6 ((w1.alloc (.cells #[.int .i64 7, .string ⟨#[97]⟩, .string ⟨#[]⟩, .string ⟨#[]⟩, .int .i64 a, .slice A5 o.length a5, .slice A6 n.length a6] 24)).alloc (.cells #[.int .i64 7, .string ⟨#[97]⟩, .string ⟨#[]⟩, .string ⟨#[]⟩, .int .i64 t, .slice B5 g.length b5, .slice B6 c.length b6] 24)) hp (rp.below (by repeat (first | exact Below.refl _ _ | refine Below.setCell ?_ (by simp <;> omega) _ | refine Below.alloc ?_ (by simp <;> omega) _ | refine Below.drew ?_)))
  refine hg.mono ?_
  rintro e w2 ⟨rfl, hb2⟩
  have hs2 : Below w1.heap.size w1 w2 := two_steps (by repeat (first | exact Below.refl _ _ | refine Below.setCell ?_ (by simp <;> omega) _ | refine Below.alloc ?_ (by simp <;> omega) _ | refine Below.drew ?_)) hb2
  have hw2 : Below w.heap.size w w2 := hw1.trans (hs2.mono hw1.size)
  have rp := rp.below hs2
  have rq := rq.below hs2
  have xp : w2.heap[w1.heap.size]? = some (.cells #[.int .i64 7, .string ⟨#[97]⟩, .string ⟨#[]⟩, .string ⟨#[]⟩, .int .i64 a, .slice A5 o.length a5, .slice A6 n.length a6] 24 (0, 0)) := blk_below (box1 w1 _ _) hb2
  have xq : w2.heap[w1.heap.size + 1]? = some (.cells #[.int .i64 7, .string ⟨#[97]⟩, .string ⟨#[]⟩, .string ⟨#[]⟩, .int .i64 t, .slice B5 g.length b5, .slice B6 c.length b6] 24 (0, 0)) := blk_below (box2 w1 _ _) hb2
  obtain ⟨pc0, pc1, pc2, pc3, pc4, pc5, pc6⟩ := cells7 xp
  obtain ⟨qc0, qc1, qc2, qc3, qc4, qc5, qc6⟩ := cells7 xq
  cases r with
  | true =>
    clear gl1
    go_wp2
    go_ret
    exact ⟨rfl, by repeat (first | with_reducible exact hw2 | refine Below.setCell ?_ (by have := hw2.size; simp <;> omega) _ | refine Below.alloc ?_ (by have := hw2.size; simp <;> omega) _ | refine Below.drew ?_)⟩
  | false =>
    replace gl1 := Aside0.mk (gl1 rfl)
    go_wp2_with (fail)
    obtain ⟨r, gl2, hg⟩ := great_at (PL t g c) B5 b5 B6 b6 w2 hq (rq.below (by repeat (first | exact Below.refl _ _ | refine Below.setCell ?_ (by simp <;> omega) _ | refine Below.alloc ?_ (by simp <;> omega) _ | refine Below.drew ?_)))
    refine hg.mono ?_
    rintro e w3 ⟨rfl, hb3⟩
    clear pc0 pc1 pc2 pc3 pc4 pc5 pc6 qc0 qc1 qc2 qc3 qc4 qc5 qc6
    have hs3 : Below w2.heap.size w2 w3 := two_steps (by repeat (first | exact Below.refl _ _ | refine Below.setCell ?_ (by simp <;> omega) _ | refine Below.alloc ?_ (by simp <;> omega) _ | refine Below.drew ?_)) hb3
    have hw3 : Below w.heap.size w w3 := hw2.trans (hs3.mono hw2.size)
    have xp := blk_below xp hs3
    have xq := blk_below xq hs3
    have rp := rp.below hs3
    have rq := rq.below hs3
    obtain ⟨pc0, pc1, pc2, pc3, pc4, pc5, pc6⟩ := cells7 xp
    obtain ⟨qc0, qc1, qc2, qc3, qc4, qc5, qc6⟩ := cells7 xq
    cases r with
    | true =>
      clear gl2
      go_wp2
      go_ret
      exact ⟨rfl, by repeat (first | with_reducible exact hw3 | refine Below.setCell ?_ (by have := hw3.size; simp <;> omega) _ | refine Below.alloc ?_ (by have := hw3.size; simp <;> omega) _ | refine Below.drew ?_)⟩
    | false =>
      replace gl2 := Aside0.mk (gl2 rfl)
      go_wp2_with (fail)
      refine (right_at (PL a o n) A5 a5 A6 a6 _ hp (rp.below (by repeat (first | exact Below.refl _ _ | refine Below.setCell ?_ (by simp <;> omega) _ | refine Below.alloc ?_ (by simp <;> omega) _ | refine Below.drew ?_)))).mono ?_
      rintro e w4 ⟨rfl, hb4⟩
      clear pc0 pc1 pc2 pc3 pc4 pc5 pc6 qc0 qc1 qc2 qc3 qc4 qc5 qc6
      have hs4 : Below w3.heap.size w3 w4 := two_steps (by repeat (first | exact Below.refl _ _ | refine Below.setCell ?_ (by simp <;> omega) _ | refine Below.alloc ?_ (by simp <;> omega) _ | refine Below.drew ?_)) hb4
      have hw4 : Below w.heap.size w w4 := hw3.trans (hs4.mono hw3.size)
      have xp := blk_below xp hs4
      have xq := blk_below xq hs4
      have rp := rp.below hs4
      have rq := rq.below hs4
      obtain ⟨pc0, pc1, pc2, pc3, pc4, pc5, pc6⟩ := cells7 xp
      obtain ⟨qc0, qc1, qc2, qc3, qc4, qc5, qc6⟩ := cells7 xq
      cases bp : primB (PL a o n) with
      | false =>
        clear bp
        go_wp2
        go_ret
        exact ⟨rfl, by repeat (first | with_reducible exact hw4 | refine Below.setCell ?_ (by have := hw4.size; simp <;> omega) _ | refine Below.alloc ?_ (by have := hw4.size; simp <;> omega) _ | refine Below.drew ?_)⟩
      | true =>
        replace bp := Aside0.mk bp
        go_wp2_with (fail)
        refine (right_at (PL t g c) B5 b5 B6 b6 _ hq (rq.below (by repeat (first | exact Below.refl _ _ | refine Below.setCell ?_ (by simp <;> omega) _ | refine Below.alloc ?_ (by simp <;> omega) _ | refine Below.drew ?_)))).mono ?_
        rintro e w5 ⟨rfl, hb5⟩
        clear pc0 pc1 pc2 pc3 pc4 pc5 pc6 qc0 qc1 qc2 qc3 qc4 qc5 qc6
        have hs5 : Below w4.heap.size w4 w5 := two_steps (by repeat (first | exact Below.refl _ _ | refine Below.setCell ?_ (by simp <;> omega) _ | refine Below.alloc ?_ (by simp <;> omega) _ | refine Below.drew ?_)) hb5
        have hw5 : Below w.heap.size w w5 := hw4.trans (hs5.mono hw4.size)
        have xp := blk_below xp hs5
        have xq := blk_below xq hs5
        have rp := rp.below hs5
        have rq := rq.below hs5
        obtain ⟨pc0, pc1, pc2, pc3, pc4, pc5, pc6⟩ := cells7 xp
        obtain ⟨qc0, qc1, qc2, qc3, qc4, qc5, qc6⟩ := cells7 xq
        cases bq : primB (PL t g c) with
        | false =>
          clear bq
          go_wp2
          go_ret
          exact ⟨rfl, by repeat (first | with_reducible exact hw5 | refine Below.setCell ?_ (by have := hw5.size; simp <;> omega) _ | refine Below.alloc ?_ (by have := hw5.size; simp <;> omega) _ | refine Below.drew ?_)⟩
        | true =>
          replace bq := Aside0.mk bq
          have g1 := gl1.out
          have g2 := gl2.out
          have u1 : IntKind.i64.wrap (a + (n.length : Int)) = a + (n.length : Int) := wrap64_id (by omega) (by omega)
          have u2 : IntKind.i64.wrap (t + (g.length : Int)) = t + (g.length : Int) := wrap64_id (by omega) (by omega)
          have u3 : IntKind.i64.wrap (t - (n.length : Int)) = t - (n.length : Int) := wrap64_id (by omega) (by omega)
          have u4 : IntKind.i64.wrap (t - (n.length : Int) + (o.length : Int)) = t - (n.length : Int) + (o.length : Int) := wrap64_id (by omega) (by omega)
          have u5 : IntKind.i64.wrap (a - (g.length : Int)) = a - (g.length : Int) := wrap64_id (by omega) (by omega)
          have u6 : IntKind.i64.wrap (a - (g.length : Int) + (c.length : Int)) = a - (g.length : Int) + (c.length : Int) := wrap64_id (by omega) (by omega)
          clear g1 g2
          go_wp2_with (fail)
          by_cases h1 : t - (n.length : Int) > a
          · skip
            refine (comm_is (PL a o n) (PL t g c) A5 a5 A6 a6 B5 b5 B6 b6 _ hp hq (rp.below (by repeat (first | exact Below.refl _ _ | refine Below.setCell ?_ (by simp <;> omega) _ | refine Below.alloc ?_ (by simp <;> omega) _ | refine Below.drew ?_))) (rq.below (by repeat (first | exact Below.refl _ _ | refine Below.setCell ?_ (by simp <;> omega) _ | refine Below.alloc ?_ (by simp <;> omega) _ | refine Below.drew ?_))) (yes_behind bp.out bq.out a0 a1 t0 t1 gl1.out gl2.out h1)).mono ?_
            rintro e w6 ⟨rfl, hb6⟩
            clear pc0 pc1 pc2 pc3 pc4 pc5 pc6 qc0 qc1 qc2 qc3 qc4 qc5 qc6
            have hs6 : Below w5.heap.size w5 w6 := two_steps (by repeat (first | exact Below.refl _ _ | refine Below.setCell ?_ (by simp <;> omega) _ | refine Below.alloc ?_ (by simp <;> omega) _ | refine Below.drew ?_)) hb6
            have hw6 : Below w.heap.size w w6 := hw5.trans (hs6.mono hw5.size)
            have xp := blk_below xp hs6
            have xq := blk_below xq hs6
            have rp := rp.below hs6
            have rq := rq.below hs6
            obtain ⟨pc0, pc1, pc2, pc3, pc4, pc5, pc6⟩ := cells7 xp
            obtain ⟨qc0, qc1, qc2, qc3, qc4, qc5, qc6⟩ := cells7 xq
            have d1 : decide (t > a + (n.length : Int)) = true := decide_eq_true (by omega)
            have d2 : decide (a > t + (g.length : Int)) = false := decide_eq_false (by omega)
            clear h1
            go_wp2
            go_ret
            exact ⟨rfl, by repeat (first | with_reducible exact hw6 | refine Below.setCell ?_ (by have := hw6.size; simp <;> omega) _ | refine Below.alloc ?_ (by have := hw6.size; simp <;> omega) _ | refine Below.drew ?_)⟩
          · skip
            by_cases h2 : a - (g.length : Int) > t
            · skip
              refine (comm_is (PL a o n) (PL t g c) A5 a5 A6 a6 B5 b5 B6 b6 _ hp hq (rp.below (by repeat (first | exact Below.refl _ _ | refine Below.setCell ?_ (by simp <;> omega) _ | refine Below.alloc ?_ (by simp <;> omega) _ | refine Below.drew ?_))) (rq.below (by repeat (first | exact Below.refl _ _ | refine Below.setCell ?_ (by simp <;> omega) _ | refine Below.alloc ?_ (by simp <;> omega) _ | refine Below.drew ?_))) (yes_ahead bp.out bq.out a0 a1 t0 t1 gl1.out gl2.out h1 h2)).mono ?_
              rintro e w6 ⟨rfl, hb6⟩
              clear pc0 pc1 pc2 pc3 pc4 pc5 pc6 qc0 qc1 qc2 qc3 qc4 qc5 qc6
              have hs6 : Below w5.heap.size w5 w6 := two_steps (by repeat (first | exact Below.refl _ _ | refine Below.setCell ?_ (by simp <;> omega) _ | refine Below.alloc ?_ (by simp <;> omega) _ | refine Below.drew ?_)) hb6
              have hw6 : Below w.heap.size w w6 := hw5.trans (hs6.mono hw5.size)
              have xp := blk_below xp hs6
              have xq := blk_below xq hs6
              have rp := rp.below hs6
              have rq := rq.below hs6
              obtain ⟨pc0, pc1, pc2, pc3, pc4, pc5, pc6⟩ := cells7 xp
              obtain ⟨qc0, qc1, qc2, qc3, qc4, qc5, qc6⟩ := cells7 xq
              have d1 : decide (t > a + (n.length : Int)) = false := decide_eq_false (by omega)
              have d2 : decide (a > t + (g.length : Int)) = true := decide_eq_true (by omega)
              clear h1 h2
              go_wp2
              go_ret
              exact ⟨rfl, by repeat (first | with_reducible exact hw6 | refine Below.setCell ?_ (by have := hw6.size; simp <;> omega) _ | refine Below.alloc ?_ (by have := hw6.size; simp <;> omega) _ | refine Below.drew ?_)⟩
            · skip
              refine (comm_not (PL a o n) (PL t g c) A5 a5 A6 a6 B5 b5 B6 b6 _ hp hq (rp.below (by repeat (first | exact Below.refl _ _ | refine Below.setCell ?_ (by simp <;> omega) _ | refine Below.alloc ?_ (by simp <;> omega) _ | refine Below.drew ?_))) (rq.below (by repeat (first | exact Below.refl _ _ | refine Below.setCell ?_ (by simp <;> omega) _ | refine Below.alloc ?_ (by simp <;> omega) _ | refine Below.drew ?_))) (no_lines a0 a1 t0 t1 gl1.out gl2.out h1 h2)).mono ?_
              rintro e w6 ⟨rfl, hb6⟩
              clear pc0 pc1 pc2 pc3 pc4 pc5 pc6 qc0 qc1 qc2 qc3 qc4 qc5 qc6
              have hs6 : Below w5.heap.size w5 w6 := two_steps (by repeat (first | exact Below.refl _ _ | refine Below.setCell ?_ (by simp <;> omega) _ | refine Below.alloc ?_ (by simp <;> omega) _ | refine Below.drew ?_)) hb6
              have hw6 : Below w.heap.size w w6 := hw5.trans (hs6.mono hw5.size)
              have xp := blk_below xp hs6
              have xq := blk_below xq hs6
              have rp := rp.below hs6
              have rq := rq.below hs6
              obtain ⟨pc0, pc1, pc2, pc3, pc4, pc5, pc6⟩ := cells7 xp
              obtain ⟨qc0, qc1, qc2, qc3, qc4, qc5, qc6⟩ := cells7 xq
              have d1 : decide (t > a + (n.length : Int)) = false := decide_eq_false (by omega)
              have d2 : decide (a > t + (g.length : Int)) = false := decide_eq_false (by omega)
              clear h1 h2
              go_wp2
              go_ret
              exact ⟨rfl, by repeat (first | with_reducible exact hw6 | refine Below.setCell ?_ (by have := hw6.size; simp <;> omega) _ | refine Below.alloc ?_ (by have := hw6.size; simp <;> omega) _ | refine Below.drew ?_)⟩
end Go.Proofs.YthhohbidjhcjeaaDoor.H
