/- The walk of law 10's CommuteInverse: whatever the two patches, it answers true. -/
import Derived.Test.YthhohbidjhcjeaaDoorCl
import Derived.Test.YthhohbidjhcjeaaDoorHd
namespace Go.Proofs.YthhohbidjhcjeaaDoor.H
open Go.RowKit Go.Proofs.YthhohbidjhcjeaaDoorW.PrintWords Go.Proofs.YthhohbidjhcjeaaDoorW.PrintLast Go.Proofs.YthhohbidjhcjeaaDoorW.PrintMore
open Go.Proofs.YthhohbidjhcjeaaDoor.Q Go.Proofs.YthhohbidjhcjeaaDoor.Pl
set_option linter.unusedSimpArgs false
set_option linter.unusedVariables false
/-- One of two, as a patch of lines has them the other way about. -/
def sw {α : Type} (x : S24) (a b : α) : α := if x.f0 = 7 then b else a
theorem inv_ex (x : S24) (h1 : 1 ≤ x.f0) (h2 : x.f0 ≤ 10) (A5 : Option Addr) (c5 : Nat) (A6 : Option Addr) (c6 : Nat) (w : World) :
    Calls Tryd.prog 29 #[.agg (cs x A5 c5 A6 c6)] w fun e w' => e = .returned (.agg (cs (invS x) (sw x A5 A6) (sw x c5 c6) (sw x A6 A5) (sw x c6 c5))) ∧ Below w.heap.size w w' := by
  obtain ⟨x0, x1, x2, x3, x4, x5, x6⟩ := x
  dsimp only at h1 h2
  have : x0 = 1 ∨ x0 = 2 ∨ x0 = 3 ∨ x0 = 4 ∨ x0 = 5 ∨ x0 = 6 ∨ x0 = 7 ∨ x0 = 8 ∨ x0 = 9 ∨ x0 = 10 := by omega
  rcases this with rfl | rfl | rfl | rfl | rfl | rfl | rfl | rfl | rfl | rfl
  · exact rinv1 x1 x2 x3 x4 A5 _ c5 A6 _ c6 w
  · exact rinv2 x1 x2 x3 x4 A5 _ c5 A6 _ c6 w
  · exact rinv3 x1 x2 x3 x4 A5 _ c5 A6 _ c6 w
  · exact rinv4 x1 x2 x3 x4 A5 _ c5 A6 _ c6 w
  · exact rinv5 x1 x2 x3 x4 A5 _ c5 A6 _ c6 w
  · exact rinv6 x1 x2 x3 x4 A5 _ c5 A6 _ c6 w
  · exact rinv7 x1 x2 x3 x4 A5 _ c5 A6 _ c6 w
  · exact rinv8 x1 x2 x3 x4 A5 _ c5 A6 _ c6 w
  · exact rinv9 x1 x2 x3 x4 A5 _ c5 A6 _ c6 w
  · exact rinv10 x1 x2 x3 x4 A5 _ c5 A6 _ c6 w
theorem rd_inv {w : World} {x : S24} {A5 : Option Addr} {c5 : Nat} {A6 : Option Addr} {c6 : Nat} (h1 : 1 ≤ x.f0) (h2 : x.f0 ≤ 10) (h : Rd w x A5 c5 A6 c6) : Rd w (invS x) (sw x A5 A6) (sw x c5 c6) (sw x A6 A5) (sw x c6 c5) := by
  obtain ⟨x0, x1, x2, x3, x4, x5, x6⟩ := x
  obtain ⟨g5, l5, g6, l6⟩ := h
  dsimp only at h1 h2
  have : x0 = 1 ∨ x0 = 2 ∨ x0 = 3 ∨ x0 = 4 ∨ x0 = 5 ∨ x0 = 6 ∨ x0 = 7 ∨ x0 = 8 ∨ x0 = 9 ∨ x0 = 10 := by omega
  rcases this with rfl | rfl | rfl | rfl | rfl | rfl | rfl | rfl | rfl | rfl
  · exact ⟨g5, l5, g6, l6⟩
  · exact ⟨g5, l5, g6, l6⟩
  · exact ⟨g5, l5, g6, l6⟩
  · exact ⟨g5, l5, g6, l6⟩
  · exact ⟨g5, l5, g6, l6⟩
  · exact ⟨g5, l5, g6, l6⟩
  · exact ⟨g6, l6, g5, l5⟩
  · exact ⟨g5, l5, g6, l6⟩
  · exact ⟨g5, l5, g6, l6⟩
  · exact ⟨g5, l5, g6, l6⟩
theorem cutG2 {S G : Nat → Nat → World → Prop} {goal : Prop} (h : (∀ g9 g10 W, S g9 g10 W → G g9 g10 W) → goal) (h2 : ∀ g9 g10 W, S g9 g10 W → G g9 g10 W) : goal := h h2
/-- Two boxes that a region makes: what each holds, where it is made already. -/
structure Sd (wu : World) (b9 b10 : Option (Array Value)) (g9 g10 : Nat) (W : World) : Prop where
  below : Below wu.heap.size wu W
  nine : ∀ c, b9 = some c → wu.heap.size ≤ g9 ∧ W.heap[g9]? = some (.cells c 24 (0, 0))
  ten : ∀ c, b10 = some c → wu.heap.size ≤ g10 ∧ W.heap[g10]? = some (.cells c 24 (0, 0))
  ne : ∀ c d, b9 = some c → b10 = some d → g9 ≠ g10
theorem Sd.start (wu : World) (g9 g10 : Nat) : Sd wu none none g9 g10 wu := ⟨Below.refl _ _, fun _ h => (by cases h), fun _ h => (by cases h), fun _ _ h => (by cases h)⟩
theorem Sd.later {wu W W' : World} {b9 b10 : Option (Array Value)} {g9 g10 : Nat} (h : Sd wu b9 b10 g9 g10 W) (hb : Below W.heap.size W W') : Sd wu b9 b10 g9 g10 W' :=
  ⟨h.below.trans (hb.mono h.below.size), fun c hc => ⟨(h.nine c hc).1, blk_below (h.nine c hc).2 hb⟩, fun c hc => ⟨(h.ten c hc).1, blk_below (h.ten c hc).2 hb⟩, h.ne⟩
theorem Sd.alloc9 {wu W : World} {b10 : Option (Array Value)} {g9 g10 : Nat} (h : Sd wu none b10 g9 g10 W) (c : Array Value) : Sd wu (some c) b10 W.heap.size g10 (W.alloc (.cells c 24)) := by
  have h2 := h.later (below_alloc (Below.refl _ W) (.cells c 24))
  refine ⟨h2.below, fun d hd => ?_, h2.ten, fun _ d _ hd => ?_⟩
  · cases hd
    exact ⟨h.below.size, blk_new W _⟩
  · have := blk_lt (h.ten d hd).2
    omega
theorem Sd.alloc10 {wu W : World} {b9 : Option (Array Value)} {g9 g10 : Nat} (h : Sd wu b9 none g9 g10 W) (c : Array Value) : Sd wu b9 (some c) g9 W.heap.size (W.alloc (.cells c 24)) := by
  have h2 := h.later (below_alloc (Below.refl _ W) (.cells c 24))
  refine ⟨h2.below, h2.nine, fun d hd => ?_, fun d _ hd _ => ?_⟩
  · cases hd
    exact ⟨h.below.size, blk_new W _⟩
  · have := blk_lt (h.nine d hd).2
    omega
theorem Sd.set9 {wu W : World} {c d : Array Value} {g9 g10 : Nat} (h : Sd wu (some c) (some d) g9 g10 W) (hc : c.size = 7) (v0 v1 v2 v3 v4 v5 v6 : Value) :
    Sd wu (some #[v0, v1, v2, v3, v4, v5, v6]) (some d) g9 g10 (((((((W.setCell ⟨g9, 0, none⟩ v0).setCell ⟨g9, 1, none⟩ v1).setCell ⟨g9, 2, none⟩ v2).setCell ⟨g9, 3, none⟩ v3).setCell ⟨g9, 4, none⟩ v4).setCell ⟨g9, 5, none⟩ v5).setCell ⟨g9, 6, none⟩ v6) :=
  ⟨below7 h.below (h.nine c rfl).1 v0 v1 v2 v3 v4 v5 v6, fun e he => by cases he; exact ⟨(h.nine c rfl).1, set7 (h.nine c rfl).2 hc v0 v1 v2 v3 v4 v5 v6⟩,
   fun e he => by cases he; exact ⟨(h.ten d rfl).1, (keep7 (Ne.symm (h.ne c d rfl rfl)) v0 v1 v2 v3 v4 v5 v6).trans (h.ten d rfl).2⟩, fun _ _ _ _ => h.ne c d rfl rfl⟩
theorem Sd.set10 {wu W : World} {c d : Array Value} {g9 g10 : Nat} (h : Sd wu (some c) (some d) g9 g10 W) (hd : d.size = 7) (v0 v1 v2 v3 v4 v5 v6 : Value) :
    Sd wu (some c) (some #[v0, v1, v2, v3, v4, v5, v6]) g9 g10 (((((((W.setCell ⟨g10, 0, none⟩ v0).setCell ⟨g10, 1, none⟩ v1).setCell ⟨g10, 2, none⟩ v2).setCell ⟨g10, 3, none⟩ v3).setCell ⟨g10, 4, none⟩ v4).setCell ⟨g10, 5, none⟩ v5).setCell ⟨g10, 6, none⟩ v6) :=
  ⟨below7 h.below (h.ten d rfl).1 v0 v1 v2 v3 v4 v5 v6, fun e he => by cases he; exact ⟨(h.nine c rfl).1, (keep7 (h.ne c d rfl rfl) v0 v1 v2 v3 v4 v5 v6).trans (h.nine c rfl).2⟩,
   fun e he => by cases he; exact ⟨(h.ten d rfl).1, set7 (h.ten d rfl).2 hd v0 v1 v2 v3 v4 v5 v6⟩, fun _ _ _ _ => h.ne c d rfl rfl⟩
theorem tkH {P : Program} {md : Region.Mode} {ops : Array Oper} {Q : Exit → Act → World → Prop} {S : World → Prop} {oi : Oper} {v : Value} {fuel : Nat} {listed : Array Bool} {a : Act} {w : World} (i : Nat) (N : Option Tmp) (hi : ops[i]? = some oi) (hN : oi.dst = N)
    (hc : (Region.noSelect ops && Region.free md ops listed i && (Region.ready md ops listed).contains i) = true) (hw : Region.wanted oi (yielded ops a.tmps) = true)
    (hQ : ∀ c a w, Q (.panic c) (a.put N v) w → Q (.panic c) a w) (hy : ∀ w, S w → (execOp a.eval oi).run P w = .ok (.value v) w) (hS : S w)
    (h : wpAnyH P md ops Q S fuel (listed.setIfInBounds i true) (a.put N v) w) : wpAnyH P md ops Q S (fuel + 1) listed a w := by
  subst hN
  simp only [Bool.and_eq_true] at hc
  exact wpAnyH_take hi hc.1.1 hc.1.2 hc.2 hQ (Or.inl ⟨hw, hy⟩) hS h
theorem wpAnyH_at {P : Program} {md : Region.Mode} {ops : Array Oper} {Q : Exit → Act → World → Prop} {S : World → Prop} {fuel : Nat} {l l' : Array Bool} {a : Act} {w : World} (h : l = l') (hh : wpAnyH P md ops Q S fuel l' a w) : wpAnyH P md ops Q S fuel l a w := h ▸ hh
set_option maxHeartbeats 40000000 in
set_option maxRecDepth 100000 in
theorem inverse_calls (p q : S24) (A5 : Option Addr) (a5 : Nat) (A6 : Option Addr) (a6 : Nat) (B5 : Option Addr) (b5 : Nat) (B6 : Option Addr) (b6 : Nat) (w : World) (hp : Okp p) (hq : Okp q) (rp : Rd w p A5 a5 A6 a6) (rq : Rd w q B5 b5 B6 b6) :
    Calls Tryd.prog 7 #[.agg #[.int .i64 p.f0, .string p.f1, .string p.f2, .string p.f3, .int .i64 p.f4, .slice A5 p.f5.length a5, .slice A6 p.f6.length a6], .agg #[.int .i64 q.f0, .string q.f1, .string q.f2, .string q.f3, .int .i64 q.f4, .slice B5 q.f5.length b5, .slice B6 q.f6.length b6]] w fun e w' => e = .returned (.bool true) ∧ Below w.heap.size w w' := by
  go_enter Tryd.func7, Tryd.ntmps7
  go_wp2_with (fail)
  refine (head10_calls _).mono ?_
  rintro e w1 ⟨rfl, hb1⟩
  have hs1 : Below w.heap.size w w1 := two_steps (by repeat (first | exact Below.refl _ _ | refine Below.setCell ?_ (by simp <;> omega) _ | refine Below.alloc ?_ (by simp <;> omega) _ | refine Below.drew ?_)) hb1
  have hw1 : Below w.heap.size w w1 := (Below.refl w.heap.size w).trans (hs1.mono (Below.refl w.heap.size w).size)
  have rp := rp.below hs1
  have rq := rq.below hs1
  have xp : w1.heap[w.heap.size]? = some (.cells #[.int .i64 p.f0, .string p.f1, .string p.f2, .string p.f3, .int .i64 p.f4, .slice A5 p.f5.length a5, .slice A6 p.f6.length a6] 24 (0, 0)) := blk_below (box1 w _ _) hb1
  have xq : w1.heap[w.heap.size + 1]? = some (.cells #[.int .i64 q.f0, .string q.f1, .string q.f2, .string q.f3, .int .i64 q.f4, .slice B5 q.f5.length b5, .slice B6 q.f6.length b6] 24 (0, 0)) := blk_below (box2 w _ _) hb1
  obtain ⟨pc0, pc1, pc2, pc3, pc4, pc5, pc6⟩ := cells7 xp
  obtain ⟨qc0, qc1, qc2, qc3, qc4, qc5, qc6⟩ := cells7 xq
  go_wp2_with (fail)
  obtain ⟨r, -, hg⟩ := great_at p A5 a5 A6 a6 w1 hp rp
  refine hg.mono ?_
  rintro e w2 ⟨rfl, hb2⟩
  clear pc0 pc1 pc2 pc3 pc4 pc5 pc6 qc0 qc1 qc2 qc3 qc4 qc5 qc6
  have hs2 : Below w1.heap.size w1 w2 := two_steps (by repeat (first | exact Below.refl _ _ | refine Below.setCell ?_ (by simp <;> omega) _ | refine Below.alloc ?_ (by simp <;> omega) _ | refine Below.drew ?_)) hb2
  have hw2 : Below w.heap.size w w2 := hw1.trans (hs2.mono hw1.size)
  have xp := blk_below xp hs2
  have xq := blk_below xq hs2
  have rp := rp.below hs2
  have rq := rq.below hs2
  obtain ⟨pc0, pc1, pc2, pc3, pc4, pc5, pc6⟩ := cells7 xp
  obtain ⟨qc0, qc1, qc2, qc3, qc4, qc5, qc6⟩ := cells7 xq
  cases r with
  | true =>
    go_wp2
    go_ret
    exact ⟨rfl, by repeat (first | with_reducible exact hw2 | refine Below.setCell ?_ (by have := hw2.size; simp <;> omega) _ | refine Below.alloc ?_ (by have := hw2.size; simp <;> omega) _ | refine Below.drew ?_)⟩
  | false =>
    go_wp2_with (fail)
    obtain ⟨r, -, hg⟩ := great_at q B5 b5 B6 b6 w2 hq rq
    refine hg.mono ?_
    rintro e w3 ⟨rfl, hb3⟩
    clear pc0 pc1 pc2 pc3 pc4 pc5 pc6 qc0 qc1 qc2 qc3 qc4 qc5 qc6
    have hs3 : Below w2.heap.size w2 w3 := two_steps (by repeat (first | exact Below.refl _ _ | refine Below.setCell ?_ (by simp <;> omega) _ | refine Below.alloc ?_ (by simp <;> omega) _ | refine Below.drew ?_)) hb3
    have hw3 : Below w.heap.size w w3 := hw2.trans (hs3.mono hw2.size)
    have xp := blk_below xp hs3
    have xq := blk_below xq hs3
    have rp := rp.below hs3
    have rq := rq.below hs3
    obtain ⟨pc0, pc1, pc2, pc3, pc4, pc5, pc6⟩ := cells7 xp
    obtain ⟨qc0, qc1, qc2, qc3, qc4, qc5, qc6⟩ := cells7 xq
    cases r with
    | true =>
      go_wp2
      go_ret
      exact ⟨rfl, by repeat (first | with_reducible exact hw3 | refine Below.setCell ?_ (by have := hw3.size; simp <;> omega) _ | refine Below.alloc ?_ (by have := hw3.size; simp <;> omega) _ | refine Below.drew ?_)⟩
    | false =>
      go_wp2_with (fail)
      refine (comm_at p q A5 a5 A6 a6 B5 b5 B6 b6 _ hp hq (rp.below (by repeat (first | exact Below.refl _ _ | refine Below.setCell ?_ (by simp <;> omega) _ | refine Below.alloc ?_ (by simp <;> omega) _ | refine Below.drew ?_))) (rq.below (by repeat (first | exact Below.refl _ _ | refine Below.setCell ?_ (by simp <;> omega) _ | refine Below.alloc ?_ (by simp <;> omega) _ | refine Below.drew ?_)))).mono ?_
      rintro e w4 ⟨h4, hb4⟩
      clear pc0 pc1 pc2 pc3 pc4 pc5 pc6 qc0 qc1 qc2 qc3 qc4 qc5 qc6
      have hs4 : Below w3.heap.size w3 w4 := two_steps (by repeat (first | exact Below.refl _ _ | refine Below.setCell ?_ (by simp <;> omega) _ | refine Below.alloc ?_ (by simp <;> omega) _ | refine Below.drew ?_)) hb4
      have hw4 : Below w.heap.size w w4 := hw3.trans (hs4.mono hw3.size)
      have xp := blk_below xp hs4
      have xq := blk_below xq hs4
      have rp := rp.below hs4
      have rq := rq.below hs4
      obtain ⟨pc0, pc1, pc2, pc3, pc4, pc5, pc6⟩ := cells7 xp
      obtain ⟨qc0, qc1, qc2, qc3, qc4, qc5, qc6⟩ := cells7 xq
      rcases h4 with ⟨hn, rfl⟩ | ⟨a, b, hy, rfl⟩
      · skip
        go_wp2
        go_ret
        exact ⟨rfl, by repeat (first | with_reducible exact hw4 | refine Below.setCell ?_ (by have := hw4.size; simp <;> omega) _ | refine Below.alloc ?_ (by have := hw4.size; simp <;> omega) _ | refine Below.drew ?_)⟩
      · skip
        obtain ⟨kb, ka⟩ := rule_keep hy.r
        have ra : Rd w4 a B5 b5 B6 b6 := rq.of (by rw [ka]) (by rw [ka])
        have rb : Rd w4 b A5 a5 A6 a6 := rp.of (by rw [kb]) (by rw [kb])
        clear ka kb
        obtain ⟨oa, ob⟩ := okp_yes hy hp hq
        obtain ⟨pd0, pd1, pd2, pd3, pd4, pd5, pd6⟩ := deep1 xp
        obtain ⟨qd0, qd1, qd2, qd3, qd4, qd5, qd6⟩ := deep1 xq
        go_upto_region 7 with (fail)
        obtain ⟨wu, hwu⟩ : ∃ U, U = (w4.alloc (.cells #[.int .i64 a.f0, .string a.f1, .string a.f2, .string a.f3, .int .i64 a.f4, .slice B5 a.f5.length b5, .slice B6 a.f6.length b6] 24)).alloc (.cells #[.int .i64 b.f0, .string b.f1, .string b.f2, .string b.f3, .int .i64 b.f4, .slice A5 b.f5.length a5, .slice A6 b.f6.length a6] 24) := ⟨_, rfl⟩
        rw [← hwu]
        clear pc0 pc1 pc2 pc3 pc4 pc5 pc6 qc0 qc1 qc2 qc3 qc4 qc5 qc6 pd0 pd1 pd2 pd3 pd4 pd5 pd6 qd0 qd1 qd2 qd3 qd4 qd5 qd6
        have hs5 : Below w4.heap.size w4 wu := (by rw [hwu]; exact ((Below.refl _ _).alloc (Nat.le_refl _) _).alloc (by simp) _)
        have hw5 : Below w.heap.size w wu := hw4.trans (hs5.mono hw4.size)
        have xp := blk_below xp hs5
        have xq := blk_below xq hs5
        have rp := rp.below hs5
        have rq := rq.below hs5
        have ra := ra.below hs5
        have rb := rb.below hs5
        obtain ⟨pc0, pc1, pc2, pc3, pc4, pc5, pc6⟩ := cells7 xp
        obtain ⟨qc0, qc1, qc2, qc3, qc4, qc5, qc6⟩ := cells7 xq
        have xa : wu.heap[w4.heap.size]? = some (.cells #[.int .i64 a.f0, .string a.f1, .string a.f2, .string a.f3, .int .i64 a.f4, .slice B5 a.f5.length b5, .slice B6 a.f6.length b6] 24 (0, 0)) := by rw [hwu]; exact box1 _ _ _
        have xb : wu.heap[w4.heap.size + 1]? = some (.cells #[.int .i64 b.f0, .string b.f1, .string b.f2, .string b.f3, .int .i64 b.f4, .slice A5 b.f5.length a5, .slice A6 b.f6.length a6] 24 (0, 0)) := by rw [hwu]; exact box2 _ _ _
        clear hwu pc0 pc1 pc2 pc3 pc4 pc5 pc6 qc0 qc1 qc2 qc3 qc4 qc5 qc6
        have ta := rt_of hy.ha
        have tb := rt_of hy.hb
        have tp := rt_of hy.hp
        have tq := rt_of hy.hq
        have hz := yes_inv hp.ok hq.ok hy
        have ria := rd_inv ta.lo ta.hi ra
        have rib := rd_inv tb.lo tb.hi rb
        obtain ⟨kb, ka⟩ := rule_keep hz.r
        have riq := ria.of (y := invS q) (by rw [ka]) (by rw [ka])
        have rip := rib.of (y := invS p) (by rw [kb]) (by rw [kb])
        clear ka kb
        replace ta := Aside0.mk ta
        replace tb := Aside0.mk tb
        replace tp := Aside0.mk tp
        replace tq := Aside0.mk tq
        replace hz := Aside0.mk hz
        replace hy := Aside0.mk hy
        replace oa := Aside0.mk oa
        replace ob := Aside0.mk ob
        replace ria := Aside0.mk ria
        replace rib := Aside0.mk rib
        replace riq := Aside0.mk riq
        replace rip := Aside0.mk rip
        replace xa := Aside0.mk xa
        replace xb := Aside0.mk xb
        replace xp := Aside0.mk xp
        replace xq := Aside0.mk xq
        replace ra := Aside0.mk ra
        replace rb := Aside0.mk rb
        replace rp := Aside0.mk rp
        replace rq := Aside0.mk rq
        go_cut [9, 10, 11] from 12 (fun v9 v10 v11 w' => ∃ g9 g10 : Nat, v9 = .pointer (some ⟨g9, 0, none⟩) ∧ v10 = .pointer (some ⟨g10, 0, none⟩) ∧ v11 = .bool true ∧ Aside0 (Sd wu (some #[.int .i64 (invS q).f0, .string (invS q).f1, .string (invS q).f2, .string (invS q).f3, .int .i64 (invS q).f4, .slice (sw a B5 B6) (invS q).f5.length (sw a b5 b6), .slice (sw a B6 B5) (invS q).f6.length (sw a b6 b5)]) (some #[.int .i64 (invS p).f0, .string (invS p).f1, .string (invS p).f2, .string (invS p).f3, .int .i64 (invS p).f4, .slice (sw b A5 A6) (invS p).f5.length (sw b a5 a6), .slice (sw b A6 A5) (invS p).f6.length (sw b a6 a5)]) g9 g10 w'))
        case first =>
          refine wp_region_held_drew (S := fun W => Below wu.heap.size wu W) (by kernel_rfl) (below_drew (Below.refl _ _)) (fun _ => ?_)
          apply cutG2 (S := Sd wu (some zeroC) (some zeroC))
          intro t9
          apply cutG2 (S := Sd wu none (some zeroC))
          intro t8
          apply cutG2 (S := Sd wu (some zeroC) none)
          intro t7
          apply cutG2 (S := Sd wu (some zeroC) (some zeroC))
          intro t6
          apply cutG2 (S := Sd wu (some zeroC) (some zeroC))
          intro t5
          apply cutG2 (S := Sd wu none (some zeroC))
          intro t4
          apply cutG2 (S := Sd wu (some zeroC) none)
          intro t3
          apply cutG2 (S := Sd wu (some zeroC) (some zeroC))
          intro t2
          apply cutG2 (S := Sd wu none (some zeroC))
          intro t1
          apply cutG2 (S := Sd wu (some zeroC) none)
          intro t0
          · have hS0 : Sd wu none none 0 0 (World.drew wu) := (Sd.start wu 0 0).later (below_drew (Below.refl _ _))
            obtain ⟨g9, e9⟩ : ∃ n : Nat, n = 0 := ⟨0, rfl⟩
            obtain ⟨g10, e10⟩ : ∃ n : Nat, n = 0 := ⟨0, rfl⟩
            have hS : Sd wu none none g9 g10 (World.drew wu) := by rw [e9, e10]; exact hS0
            clear hS0 e9 e10
            generalize World.drew wu = W at hS ⊢
            refine tkH (v := ?_) 0 (some 31) rfl rfl (by kernel_rfl) (by kernel_rfl) (fun _ _ _ h => h) (fun W' hSW => ?_) hS.below ?_
            rotate_left
            · obtain ⟨k0, k1, k2, k3, k4, k5, k6⟩ := cells7 (blk_below xb.out hSW); go_simp; (try with_reducible rfl)
            simp only [Act.put, List.setIfInBounds_toArray, List.set_cons_zero, List.set_cons_succ]
            refine tkH (v := ?_) 2 (some 33) rfl rfl (by kernel_rfl) (by kernel_rfl) (fun _ _ _ h => h) (fun W' hSW => ?_) hS.below ?_
            rotate_left
            · obtain ⟨k0, k1, k2, k3, k4, k5, k6⟩ := cells7 (blk_below xa.out hSW); go_simp; (try with_reducible rfl)
            simp only [Act.put, List.setIfInBounds_toArray, List.set_cons_zero, List.set_cons_succ]
            refine wpAnyH_ready (rs := [1, 9, 10]) (by kernel_rfl) (by simp) (AllReadyH.cons rfl (fun K hK => ?_) (AllReadyH.cons rfl (fun K hK => ?_) (AllReadyH.cons rfl (fun K hK => ?_) AllReadyH.nil)))
            · go_simp
              refine (inv_ex b tb.out.lo tb.out.hi A5 a5 A6 a6 _).mono ?_
              rintro e W ⟨rfl, hb⟩
              replace hS := hS.later hb
              refine hK.out _ _ hS.below (fun _ => ?_)
              clear hK K
              refine wpAnyH_ready (rs := [3, 9, 10]) (by kernel_rfl) (by simp) (AllReadyH.cons rfl (fun K hK => ?_) (AllReadyH.cons rfl (fun K hK => ?_) (AllReadyH.cons rfl (fun K hK => ?_) AllReadyH.nil)))
              · go_simp
                refine (inv_ex a ta.out.lo ta.out.hi B5 b5 B6 b6 _).mono ?_
                rintro e W ⟨rfl, hb⟩
                replace hS := hS.later hb
                refine hK.out _ _ hS.below (fun _ => ?_)
                clear hK K
                refine wpAnyH_ready (rs := [4, 9, 10]) (by kernel_rfl) (by simp) (AllReadyH.cons rfl (fun K hK => ?_) (AllReadyH.cons rfl (fun K hK => ?_) (AllReadyH.cons rfl (fun K hK => ?_) AllReadyH.nil)))
                · go_simp
                  refine (comm_is (invS b) (invS a) (sw b A5 A6) (sw b a5 a6) (sw b A6 A5) (sw b a6 a5) (sw a B5 B6) (sw a b5 b6) (sw a B6 B5) (sw a b6 b5) _ (okp_inv ob.out) (okp_inv oa.out) (rib.out.below hS.below) (ria.out.below hS.below) hz.out).mono ?_
                  rintro e W ⟨rfl, hb⟩
                  replace hS := hS.later hb
                  refine hK.out _ _ hS.below (fun _ => ?_)
                  clear hK K
                  refine tkH (v := ?_) 5 (some 30) rfl rfl (by kernel_rfl) (by kernel_rfl) (fun _ _ _ h => h) (fun W' hSW => ?_) hS.below ?_
                  rotate_left
                  · go_simp; (try with_reducible rfl)
                  simp only [Act.put, List.setIfInBounds_toArray, List.set_cons_zero, List.set_cons_succ]
                  refine tkH (v := ?_) 6 (some 36) rfl rfl (by kernel_rfl) (by kernel_rfl) (fun _ _ _ h => h) (fun W' hSW => ?_) hS.below ?_
                  rotate_left
                  · go_simp; (try with_reducible rfl)
                  simp only [Act.put, List.setIfInBounds_toArray, List.set_cons_zero, List.set_cons_succ]
                  refine tkH (v := ?_) 7 (some 37) rfl rfl (by kernel_rfl) (by kernel_rfl) (fun _ _ _ h => h) (fun W' hSW => ?_) hS.below ?_
                  rotate_left
                  · go_simp; (try with_reducible rfl)
                  simp only [Act.put, List.setIfInBounds_toArray, List.set_cons_zero, List.set_cons_succ]
                  refine tkH (v := ?_) 8 (some 38) rfl rfl (by kernel_rfl) (by kernel_rfl) (fun _ _ _ h => h) (fun W' hSW => ?_) hS.below ?_
                  rotate_left
                  · go_simp; (try with_reducible rfl)
                  simp only [Act.put, List.setIfInBounds_toArray, List.set_cons_zero, List.set_cons_succ]
                  refine wpAnyH_ready (rs := [9, 10]) (by kernel_rfl) (by simp) (AllReadyH.cons rfl (fun K hK => ?_) (AllReadyH.cons rfl (fun K hK => ?_) AllReadyH.nil))
                  · go_simp
                    replace hS := hS.alloc9 zeroC
                    refine hK.out _ _ hS.below (fun _ => ?_)
                    clear hK K
                    generalize W.heap.size = g9 at hS ⊢
                    generalize W.alloc (.cells zeroC 24) = W at hS ⊢
                    exact wpAnyH_at (l' := #[true, true, true, true, true, true, true, true, true, true, false, false, false, false]) (by kernel_rfl) (t7 g9 g10 _ hS)
                  · go_simp
                    replace hS := hS.alloc10 zeroC
                    refine hK.out _ _ hS.below (fun _ => ?_)
                    clear hK K
                    generalize W.heap.size = g10 at hS ⊢
                    generalize W.alloc (.cells zeroC 24) = W at hS ⊢
                    exact wpAnyH_at (l' := #[true, true, true, true, true, true, true, true, true, false, true, false, false, false]) (by kernel_rfl) (t8 g9 g10 _ hS)
                · go_simp
                  replace hS := hS.alloc9 zeroC
                  refine hK.out _ _ hS.below (fun _ => ?_)
                  clear hK K
                  generalize W.heap.size = g9 at hS ⊢
                  generalize W.alloc (.cells zeroC 24) = W at hS ⊢
                  exact wpAnyH_at (l' := #[true, true, true, true, false, false, false, false, false, true, false, false, false, false]) (by kernel_rfl) (t3 g9 g10 _ hS)
                · go_simp
                  replace hS := hS.alloc10 zeroC
                  refine hK.out _ _ hS.below (fun _ => ?_)
                  clear hK K
                  generalize W.heap.size = g10 at hS ⊢
                  generalize W.alloc (.cells zeroC 24) = W at hS ⊢
                  exact wpAnyH_at (l' := #[true, true, true, true, false, false, false, false, false, false, true, false, false, false]) (by kernel_rfl) (t4 g9 g10 _ hS)
              · go_simp
                replace hS := hS.alloc9 zeroC
                refine hK.out _ _ hS.below (fun _ => ?_)
                clear hK K
                generalize W.heap.size = g9 at hS ⊢
                generalize W.alloc (.cells zeroC 24) = W at hS ⊢
                exact wpAnyH_at (l' := #[true, true, true, false, false, false, false, false, false, true, false, false, false, false]) (by kernel_rfl) (t0 g9 g10 _ hS)
              · go_simp
                replace hS := hS.alloc10 zeroC
                refine hK.out _ _ hS.below (fun _ => ?_)
                clear hK K
                generalize W.heap.size = g10 at hS ⊢
                generalize W.alloc (.cells zeroC 24) = W at hS ⊢
                exact wpAnyH_at (l' := #[true, true, true, false, false, false, false, false, false, false, true, false, false, false]) (by kernel_rfl) (t1 g9 g10 _ hS)
            · go_simp
              replace hS := hS.alloc9 zeroC
              refine hK.out _ _ hS.below (fun _ => ?_)
              clear hK K
              generalize W.heap.size = g9 at hS ⊢
              generalize W.alloc (.cells zeroC 24) = W at hS ⊢
              refine wpAnyH_ready (rs := [1, 10]) (by kernel_rfl) (by simp) (AllReadyH.cons rfl (fun K hK => ?_) (AllReadyH.cons rfl (fun K hK => ?_) AllReadyH.nil))
              · go_simp
                refine (inv_ex b tb.out.lo tb.out.hi A5 a5 A6 a6 _).mono ?_
                rintro e W ⟨rfl, hb⟩
                replace hS := hS.later hb
                refine hK.out _ _ hS.below (fun _ => ?_)
                clear hK K
                exact wpAnyH_at (l' := #[true, true, true, false, false, false, false, false, false, true, false, false, false, false]) (by kernel_rfl) (t0 g9 g10 _ hS)
              · go_simp
                replace hS := hS.alloc10 zeroC
                refine hK.out _ _ hS.below (fun _ => ?_)
                clear hK K
                generalize W.heap.size = g10 at hS ⊢
                generalize W.alloc (.cells zeroC 24) = W at hS ⊢
                exact wpAnyH_at (l' := #[true, false, true, false, false, false, false, false, false, true, true, false, false, false]) (by kernel_rfl) (t2 g9 g10 _ hS)
            · go_simp
              replace hS := hS.alloc10 zeroC
              refine hK.out _ _ hS.below (fun _ => ?_)
              clear hK K
              generalize W.heap.size = g10 at hS ⊢
              generalize W.alloc (.cells zeroC 24) = W at hS ⊢
              refine wpAnyH_ready (rs := [1, 9]) (by kernel_rfl) (by simp) (AllReadyH.cons rfl (fun K hK => ?_) (AllReadyH.cons rfl (fun K hK => ?_) AllReadyH.nil))
              · go_simp
                refine (inv_ex b tb.out.lo tb.out.hi A5 a5 A6 a6 _).mono ?_
                rintro e W ⟨rfl, hb⟩
                replace hS := hS.later hb
                refine hK.out _ _ hS.below (fun _ => ?_)
                clear hK K
                exact wpAnyH_at (l' := #[true, true, true, false, false, false, false, false, false, false, true, false, false, false]) (by kernel_rfl) (t1 g9 g10 _ hS)
              · go_simp
                replace hS := hS.alloc9 zeroC
                refine hK.out _ _ hS.below (fun _ => ?_)
                clear hK K
                generalize W.heap.size = g9 at hS ⊢
                generalize W.alloc (.cells zeroC 24) = W at hS ⊢
                exact wpAnyH_at (l' := #[true, false, true, false, false, false, false, false, false, true, true, false, false, false]) (by kernel_rfl) (t2 g9 g10 _ hS)
          · intro g9 g10 W hS
            refine wpAnyH_ready (rs := [3, 10]) (by kernel_rfl) (by simp) (AllReadyH.cons rfl (fun K hK => ?_) (AllReadyH.cons rfl (fun K hK => ?_) AllReadyH.nil))
            · go_simp
              refine (inv_ex a ta.out.lo ta.out.hi B5 b5 B6 b6 _).mono ?_
              rintro e W ⟨rfl, hb⟩
              replace hS := hS.later hb
              refine hK.out _ _ hS.below (fun _ => ?_)
              clear hK K
              exact wpAnyH_at (l' := #[true, true, true, true, false, false, false, false, false, true, false, false, false, false]) (by kernel_rfl) (t3 g9 g10 _ hS)
            · go_simp
              replace hS := hS.alloc10 zeroC
              refine hK.out _ _ hS.below (fun _ => ?_)
              clear hK K
              generalize W.heap.size = g10 at hS ⊢
              generalize W.alloc (.cells zeroC 24) = W at hS ⊢
              exact wpAnyH_at (l' := #[true, true, true, false, false, false, false, false, false, true, true, false, false, false]) (by kernel_rfl) (t5 g9 g10 _ hS)
          · intro g9 g10 W hS
            refine wpAnyH_ready (rs := [3, 9]) (by kernel_rfl) (by simp) (AllReadyH.cons rfl (fun K hK => ?_) (AllReadyH.cons rfl (fun K hK => ?_) AllReadyH.nil))
            · go_simp
              refine (inv_ex a ta.out.lo ta.out.hi B5 b5 B6 b6 _).mono ?_
              rintro e W ⟨rfl, hb⟩
              replace hS := hS.later hb
              refine hK.out _ _ hS.below (fun _ => ?_)
              clear hK K
              exact wpAnyH_at (l' := #[true, true, true, true, false, false, false, false, false, false, true, false, false, false]) (by kernel_rfl) (t4 g9 g10 _ hS)
            · go_simp
              replace hS := hS.alloc9 zeroC
              refine hK.out _ _ hS.below (fun _ => ?_)
              clear hK K
              generalize W.heap.size = g9 at hS ⊢
              generalize W.alloc (.cells zeroC 24) = W at hS ⊢
              exact wpAnyH_at (l' := #[true, true, true, false, false, false, false, false, false, true, true, false, false, false]) (by kernel_rfl) (t5 g9 g10 _ hS)
          · intro g9 g10 W hS
            refine wpAnyH_ready (rs := [1]) (by kernel_rfl) (by simp) (AllReadyH.cons rfl (fun K hK => ?_) AllReadyH.nil)
            go_simp
            refine (inv_ex b tb.out.lo tb.out.hi A5 a5 A6 a6 _).mono ?_
            rintro e W ⟨rfl, hb⟩
            replace hS := hS.later hb
            refine hK.out _ _ hS.below (fun _ => ?_)
            clear hK K
            exact wpAnyH_at (l' := #[true, true, true, false, false, false, false, false, false, true, true, false, false, false]) (by kernel_rfl) (t5 g9 g10 _ hS)
          · intro g9 g10 W hS
            refine wpAnyH_ready (rs := [4, 10]) (by kernel_rfl) (by simp) (AllReadyH.cons rfl (fun K hK => ?_) (AllReadyH.cons rfl (fun K hK => ?_) AllReadyH.nil))
            · go_simp
              refine (comm_is (invS b) (invS a) (sw b A5 A6) (sw b a5 a6) (sw b A6 A5) (sw b a6 a5) (sw a B5 B6) (sw a b5 b6) (sw a B6 B5) (sw a b6 b5) _ (okp_inv ob.out) (okp_inv oa.out) (rib.out.below hS.below) (ria.out.below hS.below) hz.out).mono ?_
              rintro e W ⟨rfl, hb⟩
              replace hS := hS.later hb
              refine hK.out _ _ hS.below (fun _ => ?_)
              clear hK K
              refine tkH (v := ?_) 5 (some 30) rfl rfl (by kernel_rfl) (by kernel_rfl) (fun _ _ _ h => h) (fun W' hSW => ?_) hS.below ?_
              rotate_left
              · go_simp; (try with_reducible rfl)
              simp only [Act.put, List.setIfInBounds_toArray, List.set_cons_zero, List.set_cons_succ]
              refine tkH (v := ?_) 6 (some 36) rfl rfl (by kernel_rfl) (by kernel_rfl) (fun _ _ _ h => h) (fun W' hSW => ?_) hS.below ?_
              rotate_left
              · go_simp; (try with_reducible rfl)
              simp only [Act.put, List.setIfInBounds_toArray, List.set_cons_zero, List.set_cons_succ]
              refine tkH (v := ?_) 7 (some 37) rfl rfl (by kernel_rfl) (by kernel_rfl) (fun _ _ _ h => h) (fun W' hSW => ?_) hS.below ?_
              rotate_left
              · go_simp; (try with_reducible rfl)
              simp only [Act.put, List.setIfInBounds_toArray, List.set_cons_zero, List.set_cons_succ]
              refine tkH (v := ?_) 8 (some 38) rfl rfl (by kernel_rfl) (by kernel_rfl) (fun _ _ _ h => h) (fun W' hSW => ?_) hS.below ?_
              rotate_left
              · go_simp; (try with_reducible rfl)
              simp only [Act.put, List.setIfInBounds_toArray, List.set_cons_zero, List.set_cons_succ]
              exact wpAnyH_at (l' := #[true, true, true, true, true, true, true, true, true, true, false, false, false, false]) (by kernel_rfl) (t7 g9 g10 _ hS)
            · go_simp
              replace hS := hS.alloc10 zeroC
              refine hK.out _ _ hS.below (fun _ => ?_)
              clear hK K
              generalize W.heap.size = g10 at hS ⊢
              generalize W.alloc (.cells zeroC 24) = W at hS ⊢
              exact wpAnyH_at (l' := #[true, true, true, true, false, false, false, false, false, true, true, false, false, false]) (by kernel_rfl) (t6 g9 g10 _ hS)
          · intro g9 g10 W hS
            refine wpAnyH_ready (rs := [4, 9]) (by kernel_rfl) (by simp) (AllReadyH.cons rfl (fun K hK => ?_) (AllReadyH.cons rfl (fun K hK => ?_) AllReadyH.nil))
            · go_simp
              refine (comm_is (invS b) (invS a) (sw b A5 A6) (sw b a5 a6) (sw b A6 A5) (sw b a6 a5) (sw a B5 B6) (sw a b5 b6) (sw a B6 B5) (sw a b6 b5) _ (okp_inv ob.out) (okp_inv oa.out) (rib.out.below hS.below) (ria.out.below hS.below) hz.out).mono ?_
              rintro e W ⟨rfl, hb⟩
              replace hS := hS.later hb
              refine hK.out _ _ hS.below (fun _ => ?_)
              clear hK K
              refine tkH (v := ?_) 5 (some 30) rfl rfl (by kernel_rfl) (by kernel_rfl) (fun _ _ _ h => h) (fun W' hSW => ?_) hS.below ?_
              rotate_left
              · go_simp; (try with_reducible rfl)
              simp only [Act.put, List.setIfInBounds_toArray, List.set_cons_zero, List.set_cons_succ]
              refine tkH (v := ?_) 6 (some 36) rfl rfl (by kernel_rfl) (by kernel_rfl) (fun _ _ _ h => h) (fun W' hSW => ?_) hS.below ?_
              rotate_left
              · go_simp; (try with_reducible rfl)
              simp only [Act.put, List.setIfInBounds_toArray, List.set_cons_zero, List.set_cons_succ]
              refine tkH (v := ?_) 7 (some 37) rfl rfl (by kernel_rfl) (by kernel_rfl) (fun _ _ _ h => h) (fun W' hSW => ?_) hS.below ?_
              rotate_left
              · go_simp; (try with_reducible rfl)
              simp only [Act.put, List.setIfInBounds_toArray, List.set_cons_zero, List.set_cons_succ]
              refine tkH (v := ?_) 8 (some 38) rfl rfl (by kernel_rfl) (by kernel_rfl) (fun _ _ _ h => h) (fun W' hSW => ?_) hS.below ?_
              rotate_left
              · go_simp; (try with_reducible rfl)
              simp only [Act.put, List.setIfInBounds_toArray, List.set_cons_zero, List.set_cons_succ]
              exact wpAnyH_at (l' := #[true, true, true, true, true, true, true, true, true, false, true, false, false, false]) (by kernel_rfl) (t8 g9 g10 _ hS)
            · go_simp
              replace hS := hS.alloc9 zeroC
              refine hK.out _ _ hS.below (fun _ => ?_)
              clear hK K
              generalize W.heap.size = g9 at hS ⊢
              generalize W.alloc (.cells zeroC 24) = W at hS ⊢
              exact wpAnyH_at (l' := #[true, true, true, true, false, false, false, false, false, true, true, false, false, false]) (by kernel_rfl) (t6 g9 g10 _ hS)
          · intro g9 g10 W hS
            refine wpAnyH_ready (rs := [3]) (by kernel_rfl) (by simp) (AllReadyH.cons rfl (fun K hK => ?_) AllReadyH.nil)
            go_simp
            refine (inv_ex a ta.out.lo ta.out.hi B5 b5 B6 b6 _).mono ?_
            rintro e W ⟨rfl, hb⟩
            replace hS := hS.later hb
            refine hK.out _ _ hS.below (fun _ => ?_)
            clear hK K
            exact wpAnyH_at (l' := #[true, true, true, true, false, false, false, false, false, true, true, false, false, false]) (by kernel_rfl) (t6 g9 g10 _ hS)
          · intro g9 g10 W hS
            refine wpAnyH_ready (rs := [4]) (by kernel_rfl) (by simp) (AllReadyH.cons rfl (fun K hK => ?_) AllReadyH.nil)
            go_simp
            refine (comm_is (invS b) (invS a) (sw b A5 A6) (sw b a5 a6) (sw b A6 A5) (sw b a6 a5) (sw a B5 B6) (sw a b5 b6) (sw a B6 B5) (sw a b6 b5) _ (okp_inv ob.out) (okp_inv oa.out) (rib.out.below hS.below) (ria.out.below hS.below) hz.out).mono ?_
            rintro e W ⟨rfl, hb⟩
            replace hS := hS.later hb
            refine hK.out _ _ hS.below (fun _ => ?_)
            clear hK K
            refine tkH (v := ?_) 5 (some 30) rfl rfl (by kernel_rfl) (by kernel_rfl) (fun _ _ _ h => h) (fun W' hSW => ?_) hS.below ?_
            rotate_left
            · go_simp; (try with_reducible rfl)
            simp only [Act.put, List.setIfInBounds_toArray, List.set_cons_zero, List.set_cons_succ]
            refine tkH (v := ?_) 6 (some 36) rfl rfl (by kernel_rfl) (by kernel_rfl) (fun _ _ _ h => h) (fun W' hSW => ?_) hS.below ?_
            rotate_left
            · go_simp; (try with_reducible rfl)
            simp only [Act.put, List.setIfInBounds_toArray, List.set_cons_zero, List.set_cons_succ]
            refine tkH (v := ?_) 7 (some 37) rfl rfl (by kernel_rfl) (by kernel_rfl) (fun _ _ _ h => h) (fun W' hSW => ?_) hS.below ?_
            rotate_left
            · go_simp; (try with_reducible rfl)
            simp only [Act.put, List.setIfInBounds_toArray, List.set_cons_zero, List.set_cons_succ]
            refine tkH (v := ?_) 8 (some 38) rfl rfl (by kernel_rfl) (by kernel_rfl) (fun _ _ _ h => h) (fun W' hSW => ?_) hS.below ?_
            rotate_left
            · go_simp; (try with_reducible rfl)
            simp only [Act.put, List.setIfInBounds_toArray, List.set_cons_zero, List.set_cons_succ]
            exact wpAnyH_at (l' := #[true, true, true, true, true, true, true, true, true, true, true, false, false, false]) (by kernel_rfl) (t9 g9 g10 _ hS)
          · intro g9 g10 W hS
            refine wpAnyH_ready (rs := [10]) (by kernel_rfl) (by simp) (AllReadyH.cons rfl (fun K hK => ?_) AllReadyH.nil)
            go_simp
            replace hS := hS.alloc10 zeroC
            refine hK.out _ _ hS.below (fun _ => ?_)
            clear hK K
            generalize W.heap.size = g10 at hS ⊢
            generalize W.alloc (.cells zeroC 24) = W at hS ⊢
            exact wpAnyH_at (l' := #[true, true, true, true, true, true, true, true, true, true, true, false, false, false]) (by kernel_rfl) (t9 g9 g10 _ hS)
          · intro g9 g10 W hS
            refine wpAnyH_ready (rs := [9]) (by kernel_rfl) (by simp) (AllReadyH.cons rfl (fun K hK => ?_) AllReadyH.nil)
            go_simp
            replace hS := hS.alloc9 zeroC
            refine hK.out _ _ hS.below (fun _ => ?_)
            clear hK K
            generalize W.heap.size = g9 at hS ⊢
            generalize W.alloc (.cells zeroC 24) = W at hS ⊢
            exact wpAnyH_at (l' := #[true, true, true, true, true, true, true, true, true, true, true, false, false, false]) (by kernel_rfl) (t9 g9 g10 _ hS)
          · intro g9 g10 W hS
            obtain ⟨k0, k1, k2, k3, k4, k5, k6⟩ := cells7 (hS.nine _ rfl).2
            obtain ⟨f0, f1, f2, f3, f4, f5, f6⟩ := frozen7 (hS.nine _ rfl).2
            refine wpAnyH_ready (rs := [11]) (by kernel_rfl) (by simp) (AllReadyH.cons rfl (fun K hK => ?_) AllReadyH.nil)
            go_simp
            replace hS := hS.set9 rfl (.int .i64 (invS q).f0) (.string (invS q).f1) (.string (invS q).f2) (.string (invS q).f3) (.int .i64 (invS q).f4) (.slice (sw a B5 B6) (invS q).f5.length (sw a b5 b6)) (.slice (sw a B6 B5) (invS q).f6.length (sw a b6 b5))
            clear k0 f0 k1 f1 k2 f2 k3 f3 k4 f4 k5 f5 k6 f6
            refine hK.out _ _ hS.below (fun _ => ?_)
            clear hK K
            obtain ⟨k0, k1, k2, k3, k4, k5, k6⟩ := cells7 (hS.ten _ rfl).2
            obtain ⟨f0, f1, f2, f3, f4, f5, f6⟩ := frozen7 (hS.ten _ rfl).2
            refine wpAnyH_ready (rs := [12]) (by kernel_rfl) (by simp) (AllReadyH.cons rfl (fun K hK => ?_) AllReadyH.nil)
            go_simp
            replace hS := hS.set10 rfl (.int .i64 (invS p).f0) (.string (invS p).f1) (.string (invS p).f2) (.string (invS p).f3) (.int .i64 (invS p).f4) (.slice (sw b A5 A6) (invS p).f5.length (sw b a5 a6)) (.slice (sw b A6 A5) (invS p).f6.length (sw b a6 a5))
            clear k0 f0 k1 f1 k2 f2 k3 f3 k4 f4 k5 f5 k6 f6
            refine hK.out _ _ hS.below (fun _ => ?_)
            clear hK K
            refine tkH (v := ?_) 13 (some 11) rfl rfl (by kernel_rfl) (by kernel_rfl) (fun _ _ _ h => h) (fun W' hSW => ?_) hS.below ?_
            rotate_left
            · go_simp; (try with_reducible rfl)
            simp only [Act.put, List.setIfInBounds_toArray, List.set_cons_zero, List.set_cons_succ]
            refine wpAnyH_done (by kernel_rfl) ?_ _
            go_wp2
            go_meet
            case rel => exact ⟨_, _, rfl, rfl, rfl, ⟨hS⟩⟩
        case rest =>
          obtain ⟨g9, g10, rfl, rfl, rfl, hSd⟩ := hcut
          have q9 := Aside0.mk (hSd.out.nine _ rfl).2
          have q10 := Aside0.mk (hSd.out.ten _ rfl).2
          have qp := Aside0.mk (blk_below xp.out hSd.out.below)
          have qq := Aside0.mk (blk_below xq.out hSd.out.below)
          have hBu := hSd.out.below
          have oiq := okp_inv hq
          have oip := okp_inv hp
          have riq2 := Aside0.mk (riq.out.below hBu)
          have rip2 := Aside0.mk (rip.out.below hBu)
          have riq3 := Aside0.mk (rd_inv tq.out.lo tq.out.hi (rq.out.below hBu))
          have rip3 := Aside0.mk (rd_inv tp.out.lo tp.out.hi (rp.out.below hBu))
          clear hSd
          go_upto_region 8 with (fail)
          refine wp_region_held_drew (S := fun W => Below wc.heap.size wc W) (by kernel_rfl) (below_drew (Below.refl _ _)) (fun _ => ?_)
          have hS := below_drew (Below.refl wc.heap.size wc)
          generalize World.drew wc = W at hS ⊢
          refine tkH (v := ?_) 0 (some 39) rfl rfl (by kernel_rfl) (by kernel_rfl) (fun _ _ _ h => h) (fun W' hSW => ?_) hS ?_
          rotate_left
          · go_simp; (try with_reducible rfl)
          simp only [Act.put, List.setIfInBounds_toArray, List.set_cons_zero, List.set_cons_succ]
          refine tkH (v := ?_) 1 (some 40) rfl rfl (by kernel_rfl) (by kernel_rfl) (fun _ _ _ h => h) (fun W' hSW => ?_) hS ?_
          rotate_left
          · go_simp; (try with_reducible rfl)
          simp only [Act.put, List.setIfInBounds_toArray, List.set_cons_zero, List.set_cons_succ]
          refine tkH (v := ?_) 2 (some 41) rfl rfl (by kernel_rfl) (by kernel_rfl) (fun _ _ _ h => h) (fun W' hSW => ?_) hS ?_
          rotate_left
          · go_simp; (try with_reducible rfl)
          simp only [Act.put, List.setIfInBounds_toArray, List.set_cons_zero, List.set_cons_succ]
          refine tkH (v := ?_) 3 (some 42) rfl rfl (by kernel_rfl) (by kernel_rfl) (fun _ _ _ h => h) (fun W' hSW => ?_) hS ?_
          rotate_left
          · go_simp; (try with_reducible rfl)
          simp only [Act.put, List.setIfInBounds_toArray, List.set_cons_zero, List.set_cons_succ]
          refine tkH (v := ?_) 4 (some 43) rfl rfl (by kernel_rfl) (by kernel_rfl) (fun _ _ _ h => h) (fun W' hSW => ?_) hS ?_
          rotate_left
          · go_simp; (try with_reducible rfl)
          simp only [Act.put, List.setIfInBounds_toArray, List.set_cons_zero, List.set_cons_succ]
          refine tkH (v := ?_) 5 (some 44) rfl rfl (by kernel_rfl) (by kernel_rfl) (fun _ _ _ h => h) (fun W' hSW => ?_) hS ?_
          rotate_left
          · obtain ⟨k0, k1, k2, k3, k4, k5, k6⟩ := cells7 (blk_below q9.out hSW); go_simp; (try with_reducible rfl)
          simp only [Act.put, List.setIfInBounds_toArray, List.set_cons_zero, List.set_cons_succ]
          refine tkH (v := ?_) 6 (some 45) rfl rfl (by kernel_rfl) (by kernel_rfl) (fun _ _ _ h => h) (fun W' hSW => ?_) hS ?_
          rotate_left
          · obtain ⟨k0, k1, k2, k3, k4, k5, k6⟩ := cells7 (blk_below qq.out hSW); go_simp; (try with_reducible rfl)
          simp only [Act.put, List.setIfInBounds_toArray, List.set_cons_zero, List.set_cons_succ]
          refine wpAnyH_ready (rs := [7]) (by kernel_rfl) (by simp) (AllReadyH.cons rfl (fun K hK => ?_) AllReadyH.nil)
          go_simp
          refine (inv_ex q tq.out.lo tq.out.hi B5 b5 B6 b6 _).mono ?_
          rintro e W ⟨rfl, hb⟩
          replace hS := hS.trans (hb.mono hS.size)
          clear hb
          refine hK.out _ _ hS (fun _ => ?_)
          clear hK K
          refine wpAnyH_ready (rs := [8]) (by kernel_rfl) (by simp) (AllReadyH.cons rfl (fun K hK => ?_) AllReadyH.nil)
          go_simp
          refine (same_at (invS q) (sw a B5 B6) (sw a b5 b6) (sw a B6 B5) (sw a b6 b5) (sw q B5 B6) (sw q b5 b6) (sw q B6 B5) (sw q b6 b5) _ oiq (riq2.out.below hS) (riq3.out.below hS)).mono ?_
          rintro e W ⟨rfl, hb⟩
          replace hS := hS.trans (hb.mono hS.size)
          clear hb
          refine hK.out _ _ hS (fun _ => ?_)
          clear hK K
          refine tkH (v := ?_) 9 (some 48) rfl rfl (by kernel_rfl) (by kernel_rfl) (fun _ _ _ h => h) (fun W' hSW => ?_) hS ?_
          rotate_left
          · go_simp; (try with_reducible rfl)
          simp only [Act.put, List.setIfInBounds_toArray, List.set_cons_zero, List.set_cons_succ]
          refine tkH (v := ?_) 10 (some 49) rfl rfl (by kernel_rfl) (by kernel_rfl) (fun _ _ _ h => h) (fun W' hSW => ?_) hS ?_
          rotate_left
          · go_simp; (try with_reducible rfl)
          simp only [Act.put, List.setIfInBounds_toArray, List.set_cons_zero, List.set_cons_succ]
          refine tkH (v := ?_) 11 (some 50) rfl rfl (by kernel_rfl) (by kernel_rfl) (fun _ _ _ h => h) (fun W' hSW => ?_) hS ?_
          rotate_left
          · obtain ⟨k0, k1, k2, k3, k4, k5, k6⟩ := cells7 (blk_below q10.out hSW); go_simp; (try with_reducible rfl)
          simp only [Act.put, List.setIfInBounds_toArray, List.set_cons_zero, List.set_cons_succ]
          refine tkH (v := ?_) 12 (some 51) rfl rfl (by kernel_rfl) (by kernel_rfl) (fun _ _ _ h => h) (fun W' hSW => ?_) hS ?_
          rotate_left
          · obtain ⟨k0, k1, k2, k3, k4, k5, k6⟩ := cells7 (blk_below qp.out hSW); go_simp; (try with_reducible rfl)
          simp only [Act.put, List.setIfInBounds_toArray, List.set_cons_zero, List.set_cons_succ]
          refine wpAnyH_ready (rs := [13]) (by kernel_rfl) (by simp) (AllReadyH.cons rfl (fun K hK => ?_) AllReadyH.nil)
          go_simp
          refine (inv_ex p tp.out.lo tp.out.hi A5 a5 A6 a6 _).mono ?_
          rintro e W ⟨rfl, hb⟩
          replace hS := hS.trans (hb.mono hS.size)
          clear hb
          refine hK.out _ _ hS (fun _ => ?_)
          clear hK K
          refine wpAnyH_ready (rs := [14]) (by kernel_rfl) (by simp) (AllReadyH.cons rfl (fun K hK => ?_) AllReadyH.nil)
          go_simp
          refine (same_at (invS p) (sw b A5 A6) (sw b a5 a6) (sw b A6 A5) (sw b a6 a5) (sw p A5 A6) (sw p a5 a6) (sw p A6 A5) (sw p a6 a5) _ oip (rip2.out.below hS) (rip3.out.below hS)).mono ?_
          rintro e W ⟨rfl, hb⟩
          replace hS := hS.trans (hb.mono hS.size)
          clear hb
          refine hK.out _ _ hS (fun _ => ?_)
          clear hK K
          refine tkH (v := ?_) 15 (some 54) rfl rfl (by kernel_rfl) (by kernel_rfl) (fun _ _ _ h => h) (fun W' hSW => ?_) hS ?_
          rotate_left
          · go_simp; (try with_reducible rfl)
          simp only [Act.put, List.setIfInBounds_toArray, List.set_cons_zero, List.set_cons_succ]
          refine tkH (v := ?_) 16 (some 4) rfl rfl (by kernel_rfl) (by kernel_rfl) (fun _ _ _ h => h) (fun W' hSW => ?_) hS ?_
          rotate_left
          · go_simp; (try with_reducible rfl)
          simp only [Act.put, List.setIfInBounds_toArray, List.set_cons_zero, List.set_cons_succ]
          refine wpAnyH_done (by kernel_rfl) ?_ _
          go_wp2
          go_ret
          exact ⟨rfl, hw5.trans (hBu.trans (hS.mono hBu.size) |>.mono hw5.size)⟩
end Go.Proofs.YthhohbidjhcjeaaDoor.H
