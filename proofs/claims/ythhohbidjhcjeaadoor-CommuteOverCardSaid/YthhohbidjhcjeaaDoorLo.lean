/- The walk of law 10's CommuteOver: whatever the patch and the rows, it answers true. -/
import Derived.Test.YthhohbidjhcjeaaDoorCl
namespace Go.Proofs.YthhohbidjhcjeaaDoor.H
open Go.RowKit Go.Proofs.YthhohbidjhcjeaaDoorW.PrintWords Go.Proofs.YthhohbidjhcjeaaDoorW.PrintLast Go.Proofs.YthhohbidjhcjeaaDoorW.PrintMore
open Go.Proofs.YthhohbidjhcjeaaDoor.Q Go.Proofs.YthhohbidjhcjeaaDoor.Pl
theorem okp_past : ∀ (a : List S24) (p : S24), Okp p → (∀ x ∈ a, Okp x) → ∀ y r, pastS p a = some (y, r) → Okp r ∧ (∀ x ∈ y, Okp x) ∧ y.length = a.length
  | [], p, hp, _, y, r, h => by
    simp only [pastS, Option.some.injEq, Prod.mk.injEq] at h
    obtain ⟨rfl, rfl⟩ := h
    exact ⟨hp, (fun x hx => by cases hx), rfl⟩
  | x :: a, p, hp, ha, y, r, h => by
    rcases comm_or p x with e | ⟨c, d, hy, e⟩
    · rw [pastS, e, if_neg (by simp)] at h
      cases h
    · obtain ⟨oc, od⟩ := okp_yes hy hp (ha x (List.mem_cons_self ..))
      rw [pastS, e, if_pos rfl] at h
      cases hq : pastS d a with
      | none =>
        rw [hq] at h
        cases h
      | some z =>
        rw [hq] at h
        obtain ⟨o1, o2, o3⟩ := okp_past a d od (fun z hz => ha z (List.mem_cons_of_mem _ hz)) z.1 z.2 hq
        simp only [Option.map_some, Option.some.injEq, Prod.mk.injEq] at h
        obtain ⟨rfl, rfl⟩ := h
        refine ⟨o1, fun w hw => ?_, by simp [o3]⟩
        rcases List.mem_cons.1 hw with rfl | hw
        · exact oc
        · exact o2 w hw
theorem past_none {p : S24} {l : List S24} (h : pastS p l = none) : past p l = ([], z24, false) := by unfold past; rw [h]
theorem past_some {p : S24} {l : List S24} {y : List S24} {r : S24} (h : pastS p l = some (y, r)) : past p l = (y, r, true) := by unfold past; rw [h]
theorem infoO : (Tryd.prog.info? 24).map (fun i => (i.zero, i.size, i.bytes)) = some (some (.agg #[(.int .i64 0), (.string ⟨#[]⟩), (.string ⟨#[]⟩), (.string ⟨#[]⟩), (.int .i64 0), (.slice none 0 0), (.slice none 0 0)]), 7, 112) := by kernel_rfl
theorem lit0 (w : World) (base : Nat) (hb : base ≤ w.heap.size) : Kd.N k24 24 (w.alloc (.cells #[] 24)) base (fun _ => True) (.slice (some ⟨w.heap.size, 0, none⟩) 0 0) [] := by
  have hr : Reps (fun x c => Kd.FK k24 w (fun _ => False) x c) k24.sz [] [] := Reps.none _ _
  have ho : Kd.NN k24 24 (w.alloc (.cells #[] 24)) w.heap.size (fun _ => False) (.slice (some ⟨w.heap.size, 0, none⟩) 0 0) [] :=
    OwnRow.lit w w.heap.size (hr.imp_ (fun _ _ h => Kd.FK_below h (below_alloc (Below.refl _ _) _))) (Nat.le_refl _) (by simp)
  exact Kd.N_lower (Kd.N_mono (Kd.NN_N ho (fun _ h => h.elim)) (fun _ _ => trivial)) hb
theorem greatList_at (l : List S24) (A : Option Addr) (c : Nat) (w : World) (hn : l.length ≤ 140737488355328) (hl : ∀ x ∈ l, Okp x) (gl : Kd.C k24 w A l.length l) (hc : l.length ≤ c) :
    ∃ r, (r = false → l.length ≤ 60) ∧ Calls Tryd.prog 17 #[.slice A l.length c] w fun e w' => e = .returned (.bool r) ∧ Below w.heap.size w w' := by
  obtain ⟨r, hr, h60⟩ := greatList l hn (fun x hx => (hl x hx).ok)
  obtain ⟨k, hk⟩ := hr.rounds
  exact ⟨r, h60, counterpanelaw08_GreatList.calls k A c l r w gl hc hk⟩
theorem sameList_at (l : List S24) (A : Option Addr) (c : Nat) (B : Option Addr) (d : Nat) (w : World) (hn : l.length ≤ 140737488355328) (hl : ∀ x ∈ l, Okp x) (gl : Kd.C k24 w A l.length l) (hc : l.length ≤ c) (gl2 : Kd.C k24 w B l.length l) (hd : l.length ≤ d) :
    Calls Tryd.prog 21 #[.slice A l.length c, .slice B l.length d] w fun e w' => e = .returned (.bool true) ∧ Below w.heap.size w w' := by
  obtain ⟨r, hr, hj⟩ := sameList l l hn (fun x hx => (hl x hx).ok)
  obtain rfl := hj.2 rfl
  obtain ⟨k, hk⟩ := hr.rounds
  exact counterpaneref08_SameList.calls k A c l B d l true w gl hc gl2 hd hk
set_option maxHeartbeats 8000000 in
set_option maxRecDepth 100000 in
theorem over_calls (p : S24) (a b : List S24) (A5 : Option Addr) (a5 : Nat) (A6 : Option Addr) (a6 : Nat) (A : Option Addr) (ca : Nat) (B : Option Addr) (cb : Nat) (w : World) (hp : Okp p) (ha : ∀ x ∈ a, Okp x) (hb : ∀ x ∈ b, Okp x) (na : a.length ≤ 140737488355328) (nb : b.length ≤ 140737488355328) (rp : Rd w p A5 a5 A6 a6) (ga : Kd.C k24 w A a.length a) (hca : a.length ≤ ca) (gb : Kd.C k24 w B b.length b) (hcb : b.length ≤ cb) :
    Calls Tryd.prog 9 #[.agg #[.int .i64 p.f0, .string p.f1, .string p.f2, .string p.f3, .int .i64 p.f4, .slice A5 p.f5.length a5, .slice A6 p.f6.length a6], .slice A a.length ca, .slice B b.length cb] w fun e w' => e = .returned (.bool true) ∧ Below w.heap.size w w' := by
  go_enter Tryd.func9, Tryd.ntmps9
  go_wp2_with (fail)
  refine (head10_calls _).mono ?_
  rintro e w1 ⟨rfl, hb1⟩
  have hs1 : Below w.heap.size w w1 := two_steps (by repeat (first | exact Below.refl _ _ | refine Below.setCell ?_ (by simp <;> omega) _ | refine Below.alloc ?_ (by simp <;> omega) _ | refine Below.drew ?_)) hb1
  have hw1 : Below w.heap.size w w1 := (Below.refl w.heap.size w).trans (hs1.mono (Below.refl w.heap.size w).size)
  have rp := rp.below hs1
  have ga := Kd.C_below ga hs1
  have gb := Kd.C_below gb hs1
  have xp : w1.heap[w.heap.size]? = some (.cells #[.int .i64 p.f0, .string p.f1, .string p.f2, .string p.f3, .int .i64 p.f4, .slice A5 p.f5.length a5, .slice A6 p.f6.length a6] 24 (0, 0)) := blk_below (blk_new w _) hb1
  obtain ⟨pc0, pc1, pc2, pc3, pc4, pc5, pc6⟩ := cells7 xp
  go_wp2_with (fail)
  obtain ⟨r, -, hg⟩ := great_at p A5 a5 A6 a6 w1 hp rp
  refine hg.mono ?_
  rintro e w2 ⟨rfl, hb2⟩
  clear pc0 pc1 pc2 pc3 pc4 pc5 pc6
  have hs2 : Below w1.heap.size w1 w2 := two_steps (by repeat (first | exact Below.refl _ _ | refine Below.setCell ?_ (by simp <;> omega) _ | refine Below.alloc ?_ (by simp <;> omega) _ | refine Below.drew ?_)) hb2
  have hw2 : Below w.heap.size w w2 := hw1.trans (hs2.mono hw1.size)
  have xp := blk_below xp hs2
  have rp := rp.below hs2
  have ga := Kd.C_below ga hs2
  have gb := Kd.C_below gb hs2
  obtain ⟨pc0, pc1, pc2, pc3, pc4, pc5, pc6⟩ := cells7 xp
  cases r with
  | true =>
    go_wp2
    go_ret
    exact ⟨rfl, by repeat (first | with_reducible exact hw2 | refine Below.setCell ?_ (by have := hw2.size; simp <;> omega) _ | refine Below.alloc ?_ (by have := hw2.size; simp <;> omega) _ | refine Below.drew ?_)⟩
  | false =>
    go_wp2_with (fail)
    obtain ⟨r, hg60, hg⟩ := greatList_at a A ca w2 na ha ga hca
    refine hg.mono ?_
    rintro e w3 ⟨rfl, hb3⟩
    clear pc0 pc1 pc2 pc3 pc4 pc5 pc6
    have hs3 : Below w2.heap.size w2 w3 := two_steps (by repeat (first | exact Below.refl _ _ | refine Below.setCell ?_ (by simp <;> omega) _ | refine Below.alloc ?_ (by simp <;> omega) _ | refine Below.drew ?_)) hb3
    have hw3 : Below w.heap.size w w3 := hw2.trans (hs3.mono hw2.size)
    have xp := blk_below xp hs3
    have rp := rp.below hs3
    have ga := Kd.C_below ga hs3
    have gb := Kd.C_below gb hs3
    obtain ⟨pc0, pc1, pc2, pc3, pc4, pc5, pc6⟩ := cells7 xp
    cases r with
    | true =>
      clear hg60
      go_wp2
      go_ret
      exact ⟨rfl, by repeat (first | with_reducible exact hw3 | refine Below.setCell ?_ (by have := hw3.size; simp <;> omega) _ | refine Below.alloc ?_ (by have := hw3.size; simp <;> omega) _ | refine Below.drew ?_)⟩
    | false =>
      have la := Aside0.mk (hg60 rfl)
      clear hg60
      go_wp2_with (fail)
      obtain ⟨r, hg60, hg⟩ := greatList_at b B cb w3 nb hb gb hcb
      refine hg.mono ?_
      rintro e w4 ⟨rfl, hb4⟩
      clear pc0 pc1 pc2 pc3 pc4 pc5 pc6
      have hs4 : Below w3.heap.size w3 w4 := two_steps (by repeat (first | exact Below.refl _ _ | refine Below.setCell ?_ (by simp <;> omega) _ | refine Below.alloc ?_ (by simp <;> omega) _ | refine Below.drew ?_)) hb4
      have hw4 : Below w.heap.size w w4 := hw3.trans (hs4.mono hw3.size)
      have xp := blk_below xp hs4
      have rp := rp.below hs4
      have ga := Kd.C_below ga hs4
      have gb := Kd.C_below gb hs4
      obtain ⟨pc0, pc1, pc2, pc3, pc4, pc5, pc6⟩ := cells7 xp
      cases r with
      | true =>
        clear hg60
        go_wp2
        go_ret
        exact ⟨rfl, by repeat (first | with_reducible exact hw4 | refine Below.setCell ?_ (by have := hw4.size; simp <;> omega) _ | refine Below.alloc ?_ (by have := hw4.size; simp <;> omega) _ | refine Below.drew ?_)⟩
      | false =>
        have lb := Aside0.mk (hg60 rfl)
        clear hg60
        have hT : Aside0 (Below w4.heap.size w4 (w4.alloc (.cells #[] 24))) := ⟨(Below.refl _ _).alloc (Nat.le_refl _) _⟩
        have hN0 : Aside0 (Kd.N k24 24 (w4.alloc (.cells #[] 24)) w4.heap.size (fun _ => True) (.slice (some ⟨w4.heap.size, 0, none⟩) 0 0) []) := ⟨lit0 w4 _ (Nat.le_refl _)⟩
        have FA : Aside0 (Kd.F k24 w4 (fun k => k < w4.heap.size) A a.length a) := ⟨Kd.C_F k24_heap ga⟩
        have FB : Aside0 (Kd.F k24 w4 (fun k => k < w4.heap.size) B b.length b) := ⟨Kd.C_F k24_heap gb⟩
        have ok0 : Aside0 (∀ k, k < w4.heap.size → True ∧ some k ≠ (Value.slice (some ⟨w4.heap.size, 0, none⟩) 0 0).ownBlock) := ⟨fun k hk => ⟨trivial, fun e => by simp [Value.ownBlock] at e; omega⟩⟩
        have hLL : Aside0 (a.length + b.length ≤ 120) := ⟨by have := la.out; have := lb.out; omega⟩
        clear pc0 pc1 pc2 pc3 pc4 pc5 pc6
        go_upto_region 5 with (first | ((with_reducible refine gate_builtin (b := .append) (xs := #[.tmp 31, .tmp 32]) rfl ?_); at_builtin; refine Kd.N_append_rows k24 (w0 := w4) w4.heap.size rfl (.tmp 31) (.tmp 32) 25 24 (.agg #[(.int .i64 0), (.string ⟨#[]⟩), (.string ⟨#[]⟩), (.string ⟨#[]⟩), (.int .i64 0), (.slice none 0 0), (.slice none 0 0)]) 112 rfl Tryd.underlying25 infoO rfl (by decide) (by omega) (.slice (some ⟨w4.heap.size, 0, none⟩) 0 0) [] a A a.length ca (fun _ => True) (fun k => k < w4.heap.size) rfl rfl ?aO ?aR ?aP (fun _ _ => trivial) ?aB ?aS ?aL ?_; (case aO => exact hN0.out); (case aR => exact Kd.F_below FA.out hT.out); (case aP => exact ok0.out); (case aB => exact hT.out); (case aS => exact hT.out.size); (case aL => have := hLL.out; simp; omega); intro v1 y1 hN1 hB1 hg1 hat1; rw [List.nil_append] at hN1; replace hN1 := Aside0.mk hN1; replace hB1 := Aside0.mk hB1; have ok1 : Aside0 (∀ k, k < w4.heap.size → True ∧ some k ≠ v1.ownBlock) := ⟨fun k hk => ⟨trivial, fun e => by have := Kd.N_base hN1.out k e.symm; omega⟩⟩; clear hg1 hat1) | ((with_reducible refine gate_builtin (b := .append) (xs := #[.tmp 33, .tmp 34]) rfl ?_); at_builtin; refine Kd.N_append_rows k24 (w0 := w4) w4.heap.size rfl (.tmp 33) (.tmp 34) 25 24 (.agg #[(.int .i64 0), (.string ⟨#[]⟩), (.string ⟨#[]⟩), (.string ⟨#[]⟩), (.int .i64 0), (.slice none 0 0), (.slice none 0 0)]) 112 rfl Tryd.underlying25 infoO rfl (by decide) (by omega) v1 a b B b.length cb (fun _ => True) (fun k => k < w4.heap.size) rfl rfl ?aO ?aR ?aP (fun _ _ => trivial) ?aB ?aS ?aL ?_; (case aO => exact hN1.out); (case aR => exact Kd.F_below FB.out hB1.out); (case aP => exact ok1.out); (case aB => exact hB1.out); (case aS => exact hB1.out.size); (case aL => have := hLL.out; omega); intro v2 y1 hN2 hB2 hg2 hat2; replace hN2 := Aside0.mk hN2; replace hB2 := Aside0.mk hB2; clear hg2 hat2))
        have hs5 : Below w4.heap.size w4 y1 := hB2.out
        have hw5 : Below w.heap.size w y1 := hw4.trans (hs5.mono hw4.size)
        have xp := blk_below xp hs5
        have rp := rp.below hs5
        have ga := Kd.C_below ga hs5
        have gb := Kd.C_below gb hs5
        obtain ⟨pc0, pc1, pc2, pc3, pc4, pc5, pc6⟩ := cells7 xp
        obtain ⟨D1, d1, rfl, hD1, gD1⟩ := Kd.N_reads hN2.out
        clear hT hN0 FA FB ok0 hN1 hB1 ok1 hN2 hB2 hLL
        obtain ⟨j1, hj1⟩ : ∃ l, l = a ++ b := ⟨_, rfl⟩
        rw [← hj1] at hD1 gD1 ⊢
        replace hj1 := Aside0.mk hj1
        have hab : Aside0 (∀ x ∈ j1, Okp x) := ⟨fun x hx => by rw [hj1.out] at hx; exact (List.mem_append.1 hx).elim (ha x) (hb x)⟩
        have nab : Aside0 (j1.length * 112 ≤ 140737488355328) := ⟨by have := la.out; have := lb.out; rw [hj1.out, List.length_append]; omega⟩
        have na2 : Aside0 (a.length * 112 ≤ 140737488355328) := ⟨by have := la.out; omega⟩
        have nb2 : Aside0 (b.length * 112 ≤ 140737488355328) := ⟨by have := lb.out; omega⟩
        cases h1 : pastS p a with
        | none =>
          have e2 : Aside0 (past p a = ([], z24, false)) := ⟨past_none h1⟩
          have e1 : Aside0 (past p j1 = ([], z24, false)) := ⟨past_none (by rw [hj1.out, pastS_append, h1]; rfl)⟩
          clear h1
          go_wp2_with (fail)
          refine (past_at p j1 A5 a5 A6 a6 D1 d1 _ hp hab.out nab.out (rp.below (by repeat (first | exact Below.refl _ _ | refine Below.setCell ?_ (by simp <;> omega) _ | refine Below.alloc ?_ (by simp <;> omega) _ | refine Below.drew ?_))) (Kd.C_below gD1 (by repeat (first | exact Below.refl _ _ | refine Below.setCell ?_ (by simp <;> omega) _ | refine Below.alloc ?_ (by simp <;> omega) _ | refine Below.drew ?_))) hD1).mono ?_
          intro e w6 h4
          unfold PastPost at h4
          rw [e1.out] at h4
          obtain ⟨D2, d2, P25, p25, P26, p26, rfl, gD2, hD2, r2, hb6⟩ := h4
          clear pc0 pc1 pc2 pc3 pc4 pc5 pc6
          have hs6 : Below y1.heap.size y1 w6 := two_steps (by repeat (first | exact Below.refl _ _ | refine Below.setCell ?_ (by simp <;> omega) _ | refine Below.alloc ?_ (by simp <;> omega) _ | refine Below.drew ?_)) hb6
          have hw6 : Below w.heap.size w w6 := hw5.trans (hs6.mono hw5.size)
          have xp := blk_below xp hs6
          have rp := rp.below hs6
          have ga := Kd.C_below ga hs6
          have gb := Kd.C_below gb hs6
          have gD1 := Kd.C_below gD1 hs6
          obtain ⟨pc0, pc1, pc2, pc3, pc4, pc5, pc6⟩ := cells7 xp
          obtain ⟨pd0, pd1, pd2, pd3, pd4, pd5, pd6⟩ := deep1 xp
          go_wp2_with (fail)
          refine (past_at p a A5 a5 A6 a6 A ca _ hp ha na2.out (rp.below (by repeat (first | exact Below.refl _ _ | refine Below.setCell ?_ (by simp <;> omega) _ | refine Below.alloc ?_ (by simp <;> omega) _ | refine Below.drew ?_))) (Kd.C_below ga (by repeat (first | exact Below.refl _ _ | refine Below.setCell ?_ (by simp <;> omega) _ | refine Below.alloc ?_ (by simp <;> omega) _ | refine Below.drew ?_))) hca).mono ?_
          intro e w7 h4
          unfold PastPost at h4
          rw [e2.out] at h4
          obtain ⟨D3, d3, P35, p35, P36, p36, rfl, gD3, hD3, r3, hb7⟩ := h4
          clear pc0 pc1 pc2 pc3 pc4 pc5 pc6 pd0 pd1 pd2 pd3 pd4 pd5 pd6
          have hs7 : Below w6.heap.size w6 w7 := two_steps (by repeat (first | exact Below.refl _ _ | refine Below.setCell ?_ (by simp <;> omega) _ | refine Below.alloc ?_ (by simp <;> omega) _ | refine Below.drew ?_)) hb7
          have hw7 : Below w.heap.size w w7 := hw6.trans (hs7.mono hw6.size)
          have xp := blk_below xp hs7
          have rp := rp.below hs7
          have r2 := r2.below hs7
          have ga := Kd.C_below ga hs7
          have gb := Kd.C_below gb hs7
          have gD1 := Kd.C_below gD1 hs7
          have gD2 := Kd.C_below gD2 hs7
          have xb2 : w7.heap[w6.heap.size]? = some (.cells #[.int .i64 z24.f0, .string z24.f1, .string z24.f2, .string z24.f3, .int .i64 z24.f4, .slice P25 z24.f5.length p25, .slice P26 z24.f6.length p26] 24 (0, 0)) := blk_below (blk_new w6 _) hb7
          obtain ⟨pc0, pc1, pc2, pc3, pc4, pc5, pc6⟩ := cells7 xp
          obtain ⟨b2c0, b2c1, b2c2, b2c3, b2c4, b2c5, b2c6⟩ := cells7 xb2
          obtain ⟨pd0, pd1, pd2, pd3, pd4, pd5, pd6⟩ := deep1 xp
          obtain ⟨b2d0, b2d1, b2d2, b2d3, b2d4, b2d5, b2d6⟩ := deep1 xb2
          go_wp2
          go_ret
          exact ⟨rfl, by repeat (first | with_reducible exact hw7 | refine Below.setCell ?_ (by have := hw7.size; simp <;> omega) _ | refine Below.alloc ?_ (by have := hw7.size; simp <;> omega) _ | refine Below.drew ?_)⟩
        | some yr =>
          obtain ⟨y, r⟩ := yr
          have e2 : Aside0 (past p a = (y, r, true)) := ⟨past_some h1⟩
          obtain ⟨or, oy, hly⟩ := okp_past a p hp ha y r h1
          replace hly := Aside0.mk hly
          cases h2 : pastS r b with
          | none =>
            have e3 : Aside0 (past r b = ([], z24, false)) := ⟨past_none h2⟩
            have e1 : Aside0 (past p j1 = ([], z24, false)) := ⟨past_none (by rw [hj1.out, pastS_append, h1, Option.bind_some, h2]; rfl)⟩
            clear h1 h2
            go_wp2_with (fail)
            refine (past_at p j1 A5 a5 A6 a6 D1 d1 _ hp hab.out nab.out (rp.below (by repeat (first | exact Below.refl _ _ | refine Below.setCell ?_ (by simp <;> omega) _ | refine Below.alloc ?_ (by simp <;> omega) _ | refine Below.drew ?_))) (Kd.C_below gD1 (by repeat (first | exact Below.refl _ _ | refine Below.setCell ?_ (by simp <;> omega) _ | refine Below.alloc ?_ (by simp <;> omega) _ | refine Below.drew ?_))) hD1).mono ?_
            intro e w6 h4
            unfold PastPost at h4
            rw [e1.out] at h4
            obtain ⟨D2, d2, P25, p25, P26, p26, rfl, gD2, hD2, r2, hb6⟩ := h4
            clear pc0 pc1 pc2 pc3 pc4 pc5 pc6
            have hs6 : Below y1.heap.size y1 w6 := two_steps (by repeat (first | exact Below.refl _ _ | refine Below.setCell ?_ (by simp <;> omega) _ | refine Below.alloc ?_ (by simp <;> omega) _ | refine Below.drew ?_)) hb6
            have hw6 : Below w.heap.size w w6 := hw5.trans (hs6.mono hw5.size)
            have xp := blk_below xp hs6
            have rp := rp.below hs6
            have ga := Kd.C_below ga hs6
            have gb := Kd.C_below gb hs6
            have gD1 := Kd.C_below gD1 hs6
            obtain ⟨pc0, pc1, pc2, pc3, pc4, pc5, pc6⟩ := cells7 xp
            obtain ⟨pd0, pd1, pd2, pd3, pd4, pd5, pd6⟩ := deep1 xp
            go_wp2_with (fail)
            refine (past_at p a A5 a5 A6 a6 A ca _ hp ha na2.out (rp.below (by repeat (first | exact Below.refl _ _ | refine Below.setCell ?_ (by simp <;> omega) _ | refine Below.alloc ?_ (by simp <;> omega) _ | refine Below.drew ?_))) (Kd.C_below ga (by repeat (first | exact Below.refl _ _ | refine Below.setCell ?_ (by simp <;> omega) _ | refine Below.alloc ?_ (by simp <;> omega) _ | refine Below.drew ?_))) hca).mono ?_
            intro e w7 h4
            unfold PastPost at h4
            rw [e2.out] at h4
            obtain ⟨D3, d3, P35, p35, P36, p36, rfl, gD3, hD3, r3, hb7⟩ := h4
            clear pc0 pc1 pc2 pc3 pc4 pc5 pc6 pd0 pd1 pd2 pd3 pd4 pd5 pd6
            have hs7 : Below w6.heap.size w6 w7 := two_steps (by repeat (first | exact Below.refl _ _ | refine Below.setCell ?_ (by simp <;> omega) _ | refine Below.alloc ?_ (by simp <;> omega) _ | refine Below.drew ?_)) hb7
            have hw7 : Below w.heap.size w w7 := hw6.trans (hs7.mono hw6.size)
            have xp := blk_below xp hs7
            have rp := rp.below hs7
            have r2 := r2.below hs7
            have ga := Kd.C_below ga hs7
            have gb := Kd.C_below gb hs7
            have gD1 := Kd.C_below gD1 hs7
            have gD2 := Kd.C_below gD2 hs7
            have xb2 : w7.heap[w6.heap.size]? = some (.cells #[.int .i64 z24.f0, .string z24.f1, .string z24.f2, .string z24.f3, .int .i64 z24.f4, .slice P25 z24.f5.length p25, .slice P26 z24.f6.length p26] 24 (0, 0)) := blk_below (blk_new w6 _) hb7
            obtain ⟨pc0, pc1, pc2, pc3, pc4, pc5, pc6⟩ := cells7 xp
            obtain ⟨b2c0, b2c1, b2c2, b2c3, b2c4, b2c5, b2c6⟩ := cells7 xb2
            obtain ⟨pd0, pd1, pd2, pd3, pd4, pd5, pd6⟩ := deep1 xp
            obtain ⟨b2d0, b2d1, b2d2, b2d3, b2d4, b2d5, b2d6⟩ := deep1 xb2
            go_wp2_with (fail)
            refine (past_at r b P35 p35 P36 p36 B cb _ or hb nb2.out (r3.below (by repeat (first | exact Below.refl _ _ | refine Below.setCell ?_ (by simp <;> omega) _ | refine Below.alloc ?_ (by simp <;> omega) _ | refine Below.drew ?_))) (Kd.C_below gb (by repeat (first | exact Below.refl _ _ | refine Below.setCell ?_ (by simp <;> omega) _ | refine Below.alloc ?_ (by simp <;> omega) _ | refine Below.drew ?_))) hcb).mono ?_
            intro e w8 h4
            unfold PastPost at h4
            rw [e3.out] at h4
            obtain ⟨D4, d4, P45, p45, P46, p46, rfl, gD4, hD4, r4, hb8⟩ := h4
            clear pc0 pc1 pc2 pc3 pc4 pc5 pc6 b2c0 b2c1 b2c2 b2c3 b2c4 b2c5 b2c6 pd0 pd1 pd2 pd3 pd4 pd5 pd6 b2d0 b2d1 b2d2 b2d3 b2d4 b2d5 b2d6
            have hs8 : Below w7.heap.size w7 w8 := two_steps (by repeat (first | exact Below.refl _ _ | refine Below.setCell ?_ (by simp <;> omega) _ | refine Below.alloc ?_ (by simp <;> omega) _ | refine Below.drew ?_)) hb8
            have hw8 : Below w.heap.size w w8 := hw7.trans (hs8.mono hw7.size)
            have xp := blk_below xp hs8
            have xb2 := blk_below xb2 hs8
            have rp := rp.below hs8
            have r2 := r2.below hs8
            have r3 := r3.below hs8
            have ga := Kd.C_below ga hs8
            have gb := Kd.C_below gb hs8
            have gD1 := Kd.C_below gD1 hs8
            have gD2 := Kd.C_below gD2 hs8
            have gD3 := Kd.C_below gD3 hs8
            have xb3 : w8.heap[w7.heap.size]? = some (.cells #[.int .i64 r.f0, .string r.f1, .string r.f2, .string r.f3, .int .i64 r.f4, .slice P35 r.f5.length p35, .slice P36 r.f6.length p36] 24 (0, 0)) := blk_below (blk_new w7 _) hb8
            obtain ⟨pc0, pc1, pc2, pc3, pc4, pc5, pc6⟩ := cells7 xp
            obtain ⟨b2c0, b2c1, b2c2, b2c3, b2c4, b2c5, b2c6⟩ := cells7 xb2
            obtain ⟨b3c0, b3c1, b3c2, b3c3, b3c4, b3c5, b3c6⟩ := cells7 xb3
            obtain ⟨pd0, pd1, pd2, pd3, pd4, pd5, pd6⟩ := deep1 xp
            obtain ⟨b2d0, b2d1, b2d2, b2d3, b2d4, b2d5, b2d6⟩ := deep1 xb2
            obtain ⟨b3d0, b3d1, b3d2, b3d3, b3d4, b3d5, b3d6⟩ := deep1 xb3
            go_wp2
            go_ret
            exact ⟨rfl, by repeat (first | with_reducible exact hw8 | refine Below.setCell ?_ (by have := hw8.size; simp <;> omega) _ | refine Below.alloc ?_ (by have := hw8.size; simp <;> omega) _ | refine Below.drew ?_)⟩
          | some zs =>
            obtain ⟨z, s⟩ := zs
            have e3 : Aside0 (past r b = (z, s, true)) := ⟨past_some h2⟩
            obtain ⟨os, oz, hlz⟩ := okp_past b r or hb z s h2
            replace hlz := Aside0.mk hlz
            obtain ⟨yz, hyz⟩ : ∃ l, l = y ++ z := ⟨_, rfl⟩
            replace hyz := Aside0.mk hyz
            have e1 : Aside0 (past p j1 = (yz, s, true)) := ⟨past_some (by rw [hj1.out, hyz.out, pastS_append, h1, Option.bind_some, h2]; rfl)⟩
            clear h1 h2
            have oyz : Aside0 (∀ x ∈ yz, Okp x) := ⟨fun x hx => by rw [hyz.out] at hx; exact (List.mem_append.1 hx).elim (oy x) (oz x)⟩
            have nyz : Aside0 (yz.length ≤ 140737488355328) := ⟨by have := la.out; have := lb.out; have := hly.out; have := hlz.out; rw [hyz.out, List.length_append]; omega⟩
            go_wp2_with (fail)
            refine (past_at p j1 A5 a5 A6 a6 D1 d1 _ hp hab.out nab.out (rp.below (by repeat (first | exact Below.refl _ _ | refine Below.setCell ?_ (by simp <;> omega) _ | refine Below.alloc ?_ (by simp <;> omega) _ | refine Below.drew ?_))) (Kd.C_below gD1 (by repeat (first | exact Below.refl _ _ | refine Below.setCell ?_ (by simp <;> omega) _ | refine Below.alloc ?_ (by simp <;> omega) _ | refine Below.drew ?_))) hD1).mono ?_
            intro e w6 h4
            unfold PastPost at h4
            rw [e1.out] at h4
            obtain ⟨D2, d2, P25, p25, P26, p26, rfl, gD2, hD2, r2, hb6⟩ := h4
            clear pc0 pc1 pc2 pc3 pc4 pc5 pc6
            have hs6 : Below y1.heap.size y1 w6 := two_steps (by repeat (first | exact Below.refl _ _ | refine Below.setCell ?_ (by simp <;> omega) _ | refine Below.alloc ?_ (by simp <;> omega) _ | refine Below.drew ?_)) hb6
            have hw6 : Below w.heap.size w w6 := hw5.trans (hs6.mono hw5.size)
            have xp := blk_below xp hs6
            have rp := rp.below hs6
            have ga := Kd.C_below ga hs6
            have gb := Kd.C_below gb hs6
            have gD1 := Kd.C_below gD1 hs6
            obtain ⟨pc0, pc1, pc2, pc3, pc4, pc5, pc6⟩ := cells7 xp
            obtain ⟨pd0, pd1, pd2, pd3, pd4, pd5, pd6⟩ := deep1 xp
            go_wp2_with (fail)
            refine (past_at p a A5 a5 A6 a6 A ca _ hp ha na2.out (rp.below (by repeat (first | exact Below.refl _ _ | refine Below.setCell ?_ (by simp <;> omega) _ | refine Below.alloc ?_ (by simp <;> omega) _ | refine Below.drew ?_))) (Kd.C_below ga (by repeat (first | exact Below.refl _ _ | refine Below.setCell ?_ (by simp <;> omega) _ | refine Below.alloc ?_ (by simp <;> omega) _ | refine Below.drew ?_))) hca).mono ?_
            intro e w7 h4
            unfold PastPost at h4
            rw [e2.out] at h4
            obtain ⟨D3, d3, P35, p35, P36, p36, rfl, gD3, hD3, r3, hb7⟩ := h4
            clear pc0 pc1 pc2 pc3 pc4 pc5 pc6 pd0 pd1 pd2 pd3 pd4 pd5 pd6
            have hs7 : Below w6.heap.size w6 w7 := two_steps (by repeat (first | exact Below.refl _ _ | refine Below.setCell ?_ (by simp <;> omega) _ | refine Below.alloc ?_ (by simp <;> omega) _ | refine Below.drew ?_)) hb7
            have hw7 : Below w.heap.size w w7 := hw6.trans (hs7.mono hw6.size)
            have xp := blk_below xp hs7
            have rp := rp.below hs7
            have r2 := r2.below hs7
            have ga := Kd.C_below ga hs7
            have gb := Kd.C_below gb hs7
            have gD1 := Kd.C_below gD1 hs7
            have gD2 := Kd.C_below gD2 hs7
            have xb2 : w7.heap[w6.heap.size]? = some (.cells #[.int .i64 s.f0, .string s.f1, .string s.f2, .string s.f3, .int .i64 s.f4, .slice P25 s.f5.length p25, .slice P26 s.f6.length p26] 24 (0, 0)) := blk_below (blk_new w6 _) hb7
            obtain ⟨pc0, pc1, pc2, pc3, pc4, pc5, pc6⟩ := cells7 xp
            obtain ⟨b2c0, b2c1, b2c2, b2c3, b2c4, b2c5, b2c6⟩ := cells7 xb2
            obtain ⟨pd0, pd1, pd2, pd3, pd4, pd5, pd6⟩ := deep1 xp
            obtain ⟨b2d0, b2d1, b2d2, b2d3, b2d4, b2d5, b2d6⟩ := deep1 xb2
            go_wp2_with (fail)
            refine (past_at r b P35 p35 P36 p36 B cb _ or hb nb2.out (r3.below (by repeat (first | exact Below.refl _ _ | refine Below.setCell ?_ (by simp <;> omega) _ | refine Below.alloc ?_ (by simp <;> omega) _ | refine Below.drew ?_))) (Kd.C_below gb (by repeat (first | exact Below.refl _ _ | refine Below.setCell ?_ (by simp <;> omega) _ | refine Below.alloc ?_ (by simp <;> omega) _ | refine Below.drew ?_))) hcb).mono ?_
            intro e w8 h4
            unfold PastPost at h4
            rw [e3.out] at h4
            obtain ⟨D4, d4, P45, p45, P46, p46, rfl, gD4, hD4, r4, hb8⟩ := h4
            clear pc0 pc1 pc2 pc3 pc4 pc5 pc6 b2c0 b2c1 b2c2 b2c3 b2c4 b2c5 b2c6 pd0 pd1 pd2 pd3 pd4 pd5 pd6 b2d0 b2d1 b2d2 b2d3 b2d4 b2d5 b2d6
            have hs8 : Below w7.heap.size w7 w8 := two_steps (by repeat (first | exact Below.refl _ _ | refine Below.setCell ?_ (by simp <;> omega) _ | refine Below.alloc ?_ (by simp <;> omega) _ | refine Below.drew ?_)) hb8
            have hw8 : Below w.heap.size w w8 := hw7.trans (hs8.mono hw7.size)
            have xp := blk_below xp hs8
            have xb2 := blk_below xb2 hs8
            have rp := rp.below hs8
            have r2 := r2.below hs8
            have r3 := r3.below hs8
            have ga := Kd.C_below ga hs8
            have gb := Kd.C_below gb hs8
            have gD1 := Kd.C_below gD1 hs8
            have gD2 := Kd.C_below gD2 hs8
            have gD3 := Kd.C_below gD3 hs8
            have xb3 : w8.heap[w7.heap.size]? = some (.cells #[.int .i64 r.f0, .string r.f1, .string r.f2, .string r.f3, .int .i64 r.f4, .slice P35 r.f5.length p35, .slice P36 r.f6.length p36] 24 (0, 0)) := blk_below (blk_new w7 _) hb8
            obtain ⟨pc0, pc1, pc2, pc3, pc4, pc5, pc6⟩ := cells7 xp
            obtain ⟨b2c0, b2c1, b2c2, b2c3, b2c4, b2c5, b2c6⟩ := cells7 xb2
            obtain ⟨b3c0, b3c1, b3c2, b3c3, b3c4, b3c5, b3c6⟩ := cells7 xb3
            obtain ⟨pd0, pd1, pd2, pd3, pd4, pd5, pd6⟩ := deep1 xp
            obtain ⟨b2d0, b2d1, b2d2, b2d3, b2d4, b2d5, b2d6⟩ := deep1 xb2
            obtain ⟨b3d0, b3d1, b3d2, b3d3, b3d4, b3d5, b3d6⟩ := deep1 xb3
            clear pc0 pc1 pc2 pc3 pc4 pc5 pc6 b2c0 b2c1 b2c2 b2c3 b2c4 b2c5 b2c6 b3c0 b3c1 b3c2 b3c3 b3c4 b3c5 b3c6 pd0 pd1 pd2 pd3 pd4 pd5 pd6 b2d0 b2d1 b2d2 b2d3 b2d4 b2d5 b2d6 b3d0 b3d1 b3d2 b3d3 b3d4 b3d5 b3d6
            go_upto_region 12 with (fail)
            obtain ⟨wU, hU⟩ : ∃ U, U = w8.alloc (.cells #[.int .i64 s.f0, .string s.f1, .string s.f2, .string s.f3, .int .i64 s.f4, .slice P45 s.f5.length p45, .slice P46 s.f6.length p46] 24) := ⟨_, rfl⟩
            rw [← hU]
            have hs9 : Below w8.heap.size w8 wU := (by rw [hU]; exact below_alloc (Below.refl _ _) _)
            have hw9 : Below w.heap.size w wU := hw8.trans (hs9.mono hw8.size)
            have xp := blk_below xp hs9
            have xb2 := blk_below xb2 hs9
            have xb3 := blk_below xb3 hs9
            have rp := rp.below hs9
            have r2 := r2.below hs9
            have r3 := r3.below hs9
            have r4 := r4.below hs9
            have ga := Kd.C_below ga hs9
            have gb := Kd.C_below gb hs9
            have gD1 := Kd.C_below gD1 hs9
            have gD2 := Kd.C_below gD2 hs9
            have gD3 := Kd.C_below gD3 hs9
            have gD4 := Kd.C_below gD4 hs9
            obtain ⟨pc0, pc1, pc2, pc3, pc4, pc5, pc6⟩ := cells7 xp
            obtain ⟨b2c0, b2c1, b2c2, b2c3, b2c4, b2c5, b2c6⟩ := cells7 xb2
            obtain ⟨b3c0, b3c1, b3c2, b3c3, b3c4, b3c5, b3c6⟩ := cells7 xb3
            have xb4 : wU.heap[w8.heap.size]? = some (.cells #[.int .i64 s.f0, .string s.f1, .string s.f2, .string s.f3, .int .i64 s.f4, .slice P45 s.f5.length p45, .slice P46 s.f6.length p46] 24 (0, 0)) := by rw [hU]; exact blk_new _ _
            clear hU
            have hT : Aside0 (Below wU.heap.size wU (wU.alloc (.cells #[] 24))) := ⟨(Below.refl _ _).alloc (Nat.le_refl _) _⟩
            have hN0 : Aside0 (Kd.N k24 24 (wU.alloc (.cells #[] 24)) wU.heap.size (fun _ => True) (.slice (some ⟨wU.heap.size, 0, none⟩) 0 0) []) := ⟨lit0 wU _ (Nat.le_refl _)⟩
            have FA : Aside0 (Kd.F k24 wU (fun k => k < wU.heap.size) D3 y.length y) := ⟨Kd.C_F k24_heap gD3⟩
            have FB : Aside0 (Kd.F k24 wU (fun k => k < wU.heap.size) D4 z.length z) := ⟨Kd.C_F k24_heap gD4⟩
            have ok0 : Aside0 (∀ k, k < wU.heap.size → True ∧ some k ≠ (Value.slice (some ⟨wU.heap.size, 0, none⟩) 0 0).ownBlock) := ⟨fun k hk => ⟨trivial, fun e => by simp [Value.ownBlock] at e; omega⟩⟩
            have hLL : Aside0 (y.length + z.length ≤ 120) := ⟨by have := la.out; have := lb.out; have := hly.out; have := hlz.out; omega⟩
            clear pc0 pc1 pc2 pc3 pc4 pc5 pc6 b2c0 b2c1 b2c2 b2c3 b2c4 b2c5 b2c6 b3c0 b3c1 b3c2 b3c3 b3c4 b3c5 b3c6
            go_upto_region 13 with (first | ((with_reducible refine gate_builtin (b := .append) (xs := #[.tmp 81, .tmp 82]) rfl ?_); at_builtin; refine Kd.N_append_rows k24 (w0 := wU) wU.heap.size rfl (.tmp 81) (.tmp 82) 25 24 (.agg #[(.int .i64 0), (.string ⟨#[]⟩), (.string ⟨#[]⟩), (.string ⟨#[]⟩), (.int .i64 0), (.slice none 0 0), (.slice none 0 0)]) 112 rfl Tryd.underlying25 infoO rfl (by decide) (by omega) (.slice (some ⟨wU.heap.size, 0, none⟩) 0 0) [] y D3 y.length d3 (fun _ => True) (fun k => k < wU.heap.size) rfl rfl ?aO ?aR ?aP (fun _ _ => trivial) ?aB ?aS ?aL ?_; (case aO => exact hN0.out); (case aR => exact Kd.F_below FA.out hT.out); (case aP => exact ok0.out); (case aB => exact hT.out); (case aS => exact hT.out.size); (case aL => have := hLL.out; simp; omega); intro v1 y1 hN1 hB1 hg1 hat1; rw [List.nil_append] at hN1; replace hN1 := Aside0.mk hN1; replace hB1 := Aside0.mk hB1; have ok1 : Aside0 (∀ k, k < wU.heap.size → True ∧ some k ≠ v1.ownBlock) := ⟨fun k hk => ⟨trivial, fun e => by have := Kd.N_base hN1.out k e.symm; omega⟩⟩; clear hg1 hat1) | ((with_reducible refine gate_builtin (b := .append) (xs := #[.tmp 83, .tmp 84]) rfl ?_); at_builtin; refine Kd.N_append_rows k24 (w0 := wU) wU.heap.size rfl (.tmp 83) (.tmp 84) 25 24 (.agg #[(.int .i64 0), (.string ⟨#[]⟩), (.string ⟨#[]⟩), (.string ⟨#[]⟩), (.int .i64 0), (.slice none 0 0), (.slice none 0 0)]) 112 rfl Tryd.underlying25 infoO rfl (by decide) (by omega) v1 y z D4 z.length d4 (fun _ => True) (fun k => k < wU.heap.size) rfl rfl ?aO ?aR ?aP (fun _ _ => trivial) ?aB ?aS ?aL ?_; (case aO => exact hN1.out); (case aR => exact Kd.F_below FB.out hB1.out); (case aP => exact ok1.out); (case aB => exact hB1.out); (case aS => exact hB1.out.size); (case aL => have := hLL.out; omega); intro v2 y5 hN2 hB2 hg2 hat2; replace hN2 := Aside0.mk hN2; replace hB2 := Aside0.mk hB2; clear hg2 hat2))
            have hs10 : Below wU.heap.size wU y5 := hB2.out
            have hw10 : Below w.heap.size w y5 := hw9.trans (hs10.mono hw9.size)
            have xp := blk_below xp hs10
            have xb2 := blk_below xb2 hs10
            have xb3 := blk_below xb3 hs10
            have xb4 := blk_below xb4 hs10
            have rp := rp.below hs10
            have r2 := r2.below hs10
            have r3 := r3.below hs10
            have r4 := r4.below hs10
            have ga := Kd.C_below ga hs10
            have gb := Kd.C_below gb hs10
            have gD1 := Kd.C_below gD1 hs10
            have gD2 := Kd.C_below gD2 hs10
            have gD3 := Kd.C_below gD3 hs10
            have gD4 := Kd.C_below gD4 hs10
            obtain ⟨pc0, pc1, pc2, pc3, pc4, pc5, pc6⟩ := cells7 xp
            obtain ⟨b2c0, b2c1, b2c2, b2c3, b2c4, b2c5, b2c6⟩ := cells7 xb2
            obtain ⟨b3c0, b3c1, b3c2, b3c3, b3c4, b3c5, b3c6⟩ := cells7 xb3
            obtain ⟨b4c0, b4c1, b4c2, b4c3, b4c4, b4c5, b4c6⟩ := cells7 xb4
            obtain ⟨D5, d5, rfl, hD5, gD5⟩ := Kd.N_reads hN2.out
            clear hT hN0 FA FB ok0 hN1 hB1 ok1 hN2 hB2 hLL
            obtain ⟨j5, hj5⟩ : ∃ l, l = y ++ z := ⟨_, rfl⟩
            rw [← hj5] at hD5 gD5 ⊢
            replace hj5 := Aside0.mk hj5
            have hjy : j5 = yz := by rw [hj5.out, hyz.out]
            rw [hjy] at hD5 gD5 ⊢
            clear hjy
            go_wp2_with (fail)
            refine (sameList_at yz D2 d2 D5 d5 _ nyz.out oyz.out (Kd.C_below gD2 (by repeat (first | exact Below.refl _ _ | refine Below.setCell ?_ (by simp <;> omega) _ | refine Below.alloc ?_ (by simp <;> omega) _ | refine Below.drew ?_))) hD2 (Kd.C_below gD5 (by repeat (first | exact Below.refl _ _ | refine Below.setCell ?_ (by simp <;> omega) _ | refine Below.alloc ?_ (by simp <;> omega) _ | refine Below.drew ?_))) hD5).mono ?_
            rintro e w11 ⟨rfl, hb11⟩
            clear pc0 pc1 pc2 pc3 pc4 pc5 pc6 b2c0 b2c1 b2c2 b2c3 b2c4 b2c5 b2c6 b3c0 b3c1 b3c2 b3c3 b3c4 b3c5 b3c6 b4c0 b4c1 b4c2 b4c3 b4c4 b4c5 b4c6
            have hs11 : Below y5.heap.size y5 w11 := two_steps (by repeat (first | exact Below.refl _ _ | refine Below.setCell ?_ (by simp <;> omega) _ | refine Below.alloc ?_ (by simp <;> omega) _ | refine Below.drew ?_)) hb11
            have hw11 : Below w.heap.size w w11 := hw10.trans (hs11.mono hw10.size)
            have xp := blk_below xp hs11
            have xb2 := blk_below xb2 hs11
            have xb3 := blk_below xb3 hs11
            have xb4 := blk_below xb4 hs11
            have rp := rp.below hs11
            have r2 := r2.below hs11
            have r3 := r3.below hs11
            have r4 := r4.below hs11
            have ga := Kd.C_below ga hs11
            have gb := Kd.C_below gb hs11
            have gD1 := Kd.C_below gD1 hs11
            have gD2 := Kd.C_below gD2 hs11
            have gD3 := Kd.C_below gD3 hs11
            have gD4 := Kd.C_below gD4 hs11
            have gD5 := Kd.C_below gD5 hs11
            obtain ⟨pc0, pc1, pc2, pc3, pc4, pc5, pc6⟩ := cells7 xp
            obtain ⟨b2c0, b2c1, b2c2, b2c3, b2c4, b2c5, b2c6⟩ := cells7 xb2
            obtain ⟨b3c0, b3c1, b3c2, b3c3, b3c4, b3c5, b3c6⟩ := cells7 xb3
            obtain ⟨b4c0, b4c1, b4c2, b4c3, b4c4, b4c5, b4c6⟩ := cells7 xb4
            go_wp2_with (fail)
            refine (same_at s P25 p25 P26 p26 P45 p45 P46 p46 _ os (r2.below (by repeat (first | exact Below.refl _ _ | refine Below.setCell ?_ (by simp <;> omega) _ | refine Below.alloc ?_ (by simp <;> omega) _ | refine Below.drew ?_))) (r4.below (by repeat (first | exact Below.refl _ _ | refine Below.setCell ?_ (by simp <;> omega) _ | refine Below.alloc ?_ (by simp <;> omega) _ | refine Below.drew ?_)))).mono ?_
            rintro e w12 ⟨rfl, hb12⟩
            clear pc0 pc1 pc2 pc3 pc4 pc5 pc6 b2c0 b2c1 b2c2 b2c3 b2c4 b2c5 b2c6 b3c0 b3c1 b3c2 b3c3 b3c4 b3c5 b3c6 b4c0 b4c1 b4c2 b4c3 b4c4 b4c5 b4c6
            have hs12 : Below w11.heap.size w11 w12 := two_steps (by repeat (first | exact Below.refl _ _ | refine Below.setCell ?_ (by simp <;> omega) _ | refine Below.alloc ?_ (by simp <;> omega) _ | refine Below.drew ?_)) hb12
            have hw12 : Below w.heap.size w w12 := hw11.trans (hs12.mono hw11.size)
            have xp := blk_below xp hs12
            have xb2 := blk_below xb2 hs12
            have xb3 := blk_below xb3 hs12
            have xb4 := blk_below xb4 hs12
            have rp := rp.below hs12
            have r2 := r2.below hs12
            have r3 := r3.below hs12
            have r4 := r4.below hs12
            have ga := Kd.C_below ga hs12
            have gb := Kd.C_below gb hs12
            have gD1 := Kd.C_below gD1 hs12
            have gD2 := Kd.C_below gD2 hs12
            have gD3 := Kd.C_below gD3 hs12
            have gD4 := Kd.C_below gD4 hs12
            have gD5 := Kd.C_below gD5 hs12
            obtain ⟨pc0, pc1, pc2, pc3, pc4, pc5, pc6⟩ := cells7 xp
            obtain ⟨b2c0, b2c1, b2c2, b2c3, b2c4, b2c5, b2c6⟩ := cells7 xb2
            obtain ⟨b3c0, b3c1, b3c2, b3c3, b3c4, b3c5, b3c6⟩ := cells7 xb3
            obtain ⟨b4c0, b4c1, b4c2, b4c3, b4c4, b4c5, b4c6⟩ := cells7 xb4
            go_wp2
            go_ret
            exact ⟨rfl, by repeat (first | with_reducible exact hw12 | refine Below.setCell ?_ (by have := hw12.size; simp <;> omega) _ | refine Below.alloc ?_ (by have := hw12.size; simp <;> omega) _ | refine Below.drew ?_)⟩
end Go.Proofs.YthhohbidjhcjeaaDoor.H
