/- The plain law of InvertTwice. -/
import Derived.Test.YthhohbidjhcjeaaDoorPc
import Derived.Test.YthhohbidjhcjeaaDoorQx5
namespace Go.Proofs.YthhohbidjhcjeaaDoor.Pl
open Go.RowKit Go.Proofs.YthhohbidjhcjeaaDoorW.PrintWords Go.Proofs.YthhohbidjhcjeaaDoorW.PrintMore Go.Proofs.YthhohbidjhcjeaaDoor.Q Go.Proofs.YthhohbidjhcjeaaDoor.H

theorem primB_lo {x : S24} (h : primB x = true) : 1 ≤ x.f0 ∧ x.f0 ≤ 10 := by
  unfold primB kindB at h
  simp only [Bool.and_eq_true] at h
  obtain ⟨_, hk⟩ := h
  by_cases h8 : x.f0 = 8
  · omega
  · rw [if_neg h8] at hk
    by_cases h9 : x.f0 = 9
    · omega
    · rw [if_neg h9] at hk
      by_cases h3 : x.f3.toList = ([] : List UInt8)
      · rw [if_pos h3] at hk
        by_cases h10 : x.f0 = 10
        · omega
        · rw [if_neg h10] at hk
          by_cases h7 : x.f0 = 7
          · omega
          · rw [if_neg h7] at hk
            simp only [Bool.and_eq_true, decide_eq_true_eq] at hk
            omega
      · rw [if_neg h3] at hk
        cases hk
theorem bne_comm' (a b : List UInt8) : (a != b) = (b != a) := by
  cases h : (a != b) <;> cases h' : (b != a) <;> simp_all
theorem inv_inv (x : S24) (h1 : 1 ≤ x.f0) (h2 : x.f0 ≤ 10) : invS (invS x) = x := by
  obtain ⟨k, p, t, f, a, o, n⟩ := x
  dsimp only at h1 h2
  have : k = 1 ∨ k = 2 ∨ k = 3 ∨ k = 4 ∨ k = 5 ∨ k = 6 ∨ k = 7 ∨ k = 8 ∨ k = 9 ∨ k = 10 := by omega
  rcases this with rfl | rfl | rfl | rfl | rfl | rfl | rfl | rfl | rfl | rfl <;> rfl
theorem primB_inv {x : S24} (h : primB x = true) : primB (invS x) = true := by
  obtain ⟨h1, h2⟩ := primB_lo h
  obtain ⟨k, p, t, f, a, o, n⟩ := x
  dsimp only at h1 h2
  have : k = 1 ∨ k = 2 ∨ k = 3 ∨ k = 4 ∨ k = 5 ∨ k = 6 ∨ k = 7 ∨ k = 8 ∨ k = 9 ∨ k = 10 := by omega
  have hc := apart_comm p t
  have hb := bne_comm' f.toList t.toList
  have hl : o.length + n.length = n.length + o.length := Nat.add_comm _ _
  rcases this with rfl | rfl | rfl | rfl | rfl | rfl | rfl | rfl | rfl | rfl
  all_goals simp only [primB, kindB, listedB, invS, opp, Bool.and_eq_true] at h ⊢
  all_goals simp_all
theorem all_all (l : List S24) (h : ∀ x ∈ l, primB x = true) : ((l.reverse.map invS).reverse.map invS) = l := by
  rw [← List.map_reverse, List.reverse_reverse, List.map_map]
  conv => rhs; rw [← List.map_id l]
  exact List.map_congr_left (fun x hx => inv_inv x (primB_lo (h x hx)).1 (primB_lo (h x hx)).2)
theorem twice_l (l : List S24) (hn : l.length ≤ 1256584717458) (hl : ∀ x ∈ l, Okp x) : ∀ (d i : Nat), i + d = l.length → (∀ x ∈ l.take i, primB x = true) → Ev (fun k => counterpanelaw09_InvertTwice.l0 k l true (i : Int)) true := by
  intro d
  induction d with
  | zero =>
    intro i hi hp
    rw [List.take_of_length_le (by omega)] at hp
    obtain ⟨s, hs, hj⟩ := sameList l l (by omega) (fun x hx => (hl x hx).ok)
    obtain rfl := hj.2 rfl
    have e1 : invert_All.f l = some (l.reverse.map invS) := if_pos hn
    have e2 : invert_All.f (l.reverse.map invS) = some l := by
      have h2 : (l.reverse.map invS).length ≤ 1256584717458 := by simpa using hn
      rw [invert_All.f, if_pos h2, all_all l hp]
    refine Ev.step (f := fun k => (counterpaneref08_SameList.f k l l).bind fun t => some t) (fun k => ?_) (Ev.bind hs (Ev.now _))
    simp only [counterpanelaw09_InvertTwice.l0]
    rw [if_neg (by omega), if_pos trivial, e1, Option.bind_some, e2, Option.bind_some]
  | succ d ih =>
    intro i hi hp
    have h1 : i < l.length := by omega
    have hr := prim_right l[i] (hl _ (List.getElem_mem h1))
    refine Ev.step (f := fun k => (prim_Right.f k l[i].f0 l[i].f1 l[i].f2 l[i].f3 l[i].f4 l[i].f5 l[i].f6).bind fun t => if t = true then counterpanelaw09_InvertTwice.l0 k l true ((i + 1 : Nat) : Int) else some true) (fun k => ?_) ?_
    · simp only [counterpanelaw09_InvertTwice.l0]
      rw [if_pos (by omega), if_pos (by omega), rd_T24_get _ h1, wrap_1 h1 (by omega)]
    · cases hb : primB l[i] with
      | true =>
        rw [hb] at hr
        refine Ev.bind (f := fun k t => if t = true then counterpanelaw09_InvertTwice.l0 k l true ((i + 1 : Nat) : Int) else some true) hr (Ev.congr (fun k => if_pos rfl) (ih (i + 1) (by omega) ?_))
        intro x hx
        rw [List.take_succ_eq_append_getElem h1] at hx
        rcases List.mem_append.1 hx with hx | hx
        · exact hp x hx
        · rw [List.mem_singleton.1 hx, hb]
      | false =>
        rw [hb] at hr
        exact Ev.bind (f := fun k t => if t = true then counterpanelaw09_InvertTwice.l0 k l true ((i + 1 : Nat) : Int) else some true) hr (Ev.congr (fun k => if_neg (by simp)) (Ev.now _))
theorem inv_f (x : S24) : invert_Invert.f x.f0 x.f1 x.f2 x.f3 x.f4 x.f5 x.f6 = some ((invS x).f0, (invS x).f1, (invS x).f2, (invS x).f3, (invS x).f4, (invS x).f5, (invS x).f6) := by
  obtain ⟨_, _, _, _, _, _, _⟩ := x
  rfl
theorem core (R Q S : Nat → Option Bool) (J : Nat → Bool → Option Bool) (r : Bool) (hr : Ev R r) (hq : r = true → Ev Q true) (hs : r = true → Ev S true) (hJ : Ev (fun k => J k false) true) :
    Ev (fun k => (R k).bind fun t => if t = true then ((Q k).bind fun u => if u = true then ((S k).bind fun v => J k (!v)) else J k true) else J k false) true := by
  cases r with
  | false => exact Ev.bind (f := fun k t => if t = true then ((Q k).bind fun u => if u = true then ((S k).bind fun v => J k (!v)) else J k true) else J k false) hr (Ev.congr (fun k => if_neg (by simp)) hJ)
  | true =>
    refine Ev.bind (f := fun k t => if t = true then ((Q k).bind fun u => if u = true then ((S k).bind fun v => J k (!v)) else J k true) else J k false) hr (Ev.congr (fun k => if_pos rfl) ?_)
    refine Ev.bind (f := fun k u => if u = true then ((S k).bind fun v => J k (!v)) else J k true) (hq rfl) (Ev.congr (fun k => if_pos rfl) ?_)
    exact Ev.bind (f := fun k v => J k (!v)) (hs rfl) hJ
theorem twice_j0 (p : S24) (l : List S24) (hp : Okp p) (loop : Ev (fun k => counterpanelaw09_InvertTwice.j1 k l true false) true) : Ev (fun k => counterpanelaw09_InvertTwice.j0 k l true false p.f0 p.f1 p.f2 p.f3 p.f4 p.f5 p.f6) true := by
  have hr := prim_right p hp
  have hq := prim_right (invS p) (okp_inv hp)
  have c := core _ _ (fun k => counterpaneref08_Same.f k (invS (invS p)).f0 (invS (invS p)).f1 (invS (invS p)).f2 (invS (invS p)).f3 (invS (invS p)).f4 (invS (invS p)).f5 (invS (invS p)).f6 p.f0 p.f1 p.f2 p.f3 p.f4 p.f5 p.f6)
    (fun k b => counterpanelaw09_InvertTwice.j1 k l true b) (primB p) hr (fun h => by rw [primB_inv h] at hq; exact hq) (fun h => by
      have hii := inv_inv p (primB_lo h).1 (primB_lo h).2
      obtain ⟨r, hs, hj⟩ := same08 (invS (invS p)) p (by rw [hii]; exact hp.ok)
      obtain rfl := hj.2 hii
      exact hs) loop
  refine Ev.step (fun k => ?_) c
  rw [counterpanelaw09_InvertTwice.j0, if_neg (by simp), inv_f, Option.bind_some]
  refine congrArg (Option.bind _) (funext fun t => ?_)
  cases t with
  | false => rw [if_neg (by simp), if_neg (by simp)]
  | true =>
    rw [if_pos rfl, if_pos rfl]
    refine congrArg (Option.bind _) (funext fun u => ?_)
    cases u with
    | false => rw [if_neg (by simp), if_neg (by simp)]
    | true =>
      rw [if_pos rfl, if_pos rfl]
      dsimp only
      rw [inv_f, Option.bind_some]
/-- InvertTwice. -/
theorem invertTwice (p : S24) (l : List S24) (hp : Okp p) (hn : l.length ≤ 1256584717458) (hl : ∀ x ∈ l, Okp x) : ∃ k, counterpanelaw09_InvertTwice.f k p.f0 p.f1 p.f2 p.f3 p.f4 p.f5 p.f6 l = some true := by
  suffices h : Ev (fun k => counterpanelaw09_InvertTwice.f k p.f0 p.f1 p.f2 p.f3 p.f4 p.f5 p.f6 l) true from h.rounds
  have loop : Ev (fun k => counterpanelaw09_InvertTwice.j1 k l true false) true := by
    refine Ev.step (f := fun k => counterpanelaw09_InvertTwice.l0 k l true ((0 : Nat) : Int)) (fun k => ?_) (twice_l l hn hl l.length 0 (by omega) (by simp))
    simp only [counterpanelaw09_InvertTwice.j1, Bool.false_eq_true, if_false]
    rfl
  have fin : ∀ b, Ev (fun k => counterpanelaw09_InvertTwice.j0 k l true b p.f0 p.f1 p.f2 p.f3 p.f4 p.f5 p.f6) true := by
    intro b
    cases b with
    | true => exact Ev.step (f := fun _ => some true) (fun k => by simp only [counterpanelaw09_InvertTwice.j0]; rfl) (Ev.now _)
    | false => exact twice_j0 p l hp loop
  obtain ⟨g, hg, _⟩ := great p hp.ok
  obtain ⟨m, hm, _⟩ := greatList l (by omega) (fun x hx => (hl x hx).ok)
  show Ev (fun k => (counterpanelaw08_Great.f k p.f0 p.f1 p.f2 p.f3 p.f4 p.f5 p.f6).bind fun t => if t = true then counterpanelaw09_InvertTwice.j0 k l true true p.f0 p.f1 p.f2 p.f3 p.f4 p.f5 p.f6 else (counterpanelaw08_GreatList.f k l).bind fun u => counterpanelaw09_InvertTwice.j0 k l true u p.f0 p.f1 p.f2 p.f3 p.f4 p.f5 p.f6) true
  refine Ev.bind hg ?_
  cases g with
  | true => exact Ev.congr (fun k => if_pos rfl) (fin true)
  | false => exact Ev.congr (fun k => if_neg (by simp)) (Ev.bind (f := fun k u => counterpanelaw09_InvertTwice.j0 k l true u p.f0 p.f1 p.f2 p.f3 p.f4 p.f5 p.f6) hm (fin m))
end Go.Proofs.YthhohbidjhcjeaaDoor.Pl
