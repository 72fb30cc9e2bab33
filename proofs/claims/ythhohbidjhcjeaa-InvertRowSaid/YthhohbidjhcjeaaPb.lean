/- Plain laws of the statements of layer 9 that reach no tree. -/
import Derived.Test.YthhohbidjhcjeaaPa
import Derived.Test.YthhohbidjhcjeaaQx3
import Derived.Test.YthhohbidjhcjeaaQx4
namespace Go.Proofs.Ythhohbidjhcjeaa.Pl
open Go.RowKit Go.Proofs.YthhohbidjhcjeaaW.PrintWords Go.Proofs.YthhohbidjhcjeaaW.PrintMore Go.Proofs.Ythhohbidjhcjeaa.Q Go.Proofs.Ythhohbidjhcjeaa.H

theorem wrap_m1 (i : Nat) (hn : i ≤ 140737488355328) : wrap64 ((i : Int) - 1) = (i : Int) - 1 := by
  unfold wrap64
  omega
theorem ok_inv {x : S24} (h : Ok24 x) : Ok24 (invS x) := by
  unfold invS
  obtain ⟨h5, h6⟩ := h
  repeat' split
  all_goals first | exact ⟨h5, h6⟩ | exact ⟨h6, h5⟩ | exact ⟨Nat.zero_le _, Nat.zero_le _⟩
/-- The reference's All. -/
theorem rall_l (a : List S24) (hn : a.length ≤ 1256584717458) : ∀ (i : Nat) (acc : List S24), i ≤ a.length → acc.length + i ≤ 1256584717458 → Ev (fun k => counterpaneref09_All.l0 k a acc ((i : Int) - 1)) (acc ++ (a.take i).reverse.map invS) := by
  intro i
  induction i with
  | zero =>
    intro acc _ _
    refine Ev.step (f := fun _ => some acc) (fun k => ?_) ?_
    · simp only [counterpaneref09_All.l0]
      rw [if_neg (by omega)]
    · simpa using Ev.now acc
  | succ i ih =>
    intro acc hi hl
    have h1 : i < a.length := by omega
    have e1 : ((i + 1 : Nat) : Int) - 1 = (i : Int) := by omega
    have et : (a.take (i + 1)).reverse = a[i] :: (a.take i).reverse := by rw [List.take_succ_eq_append_getElem h1]; simp
    have key := ih (acc ++ [invS a[i]]) (by omega) (by simp; omega)
    rw [et, List.map_cons]
    rw [List.append_assoc, List.singleton_append] at key
    refine Ev.step (f := fun k => counterpaneref09_All.l0 k a (acc ++ [invS a[i]]) ((i : Int) - 1)) (fun k => ?_) key
    simp only [counterpaneref09_All.l0]
    rw [e1, if_pos (by omega), if_pos (by omega), if_pos (by omega), rd_T24_get _ h1, wrap_m1 i (by omega)]
    simp only [counterpaneref09_Invert.f, Option.bind_some]
    rw [if_pos (by omega)]
theorem rall (a : List S24) (hn : a.length ≤ 1256584717458) : Ev (fun k => counterpaneref09_All.f k a) (a.reverse.map invS) := by
  have h := rall_l a hn a.length [] (Nat.le_refl _) (by simpa using hn)
  rw [List.take_length] at h
  refine Ev.congr (fun k => ?_) h
  unfold counterpaneref09_All.f
  rw [wrap_m1 _ (by omega)]

/-- InvertTells. -/
theorem invertTells (p : S24) (l : List S24) (hp : Ok24 p) (hn : l.length ≤ 1256584717458) (hl : ∀ x ∈ l, Ok24 x) : ∃ k, counterpanelaw09_InvertTells.f k p.f0 p.f1 p.f2 p.f3 p.f4 p.f5 p.f6 l = some true := by
  suffices h : Ev (fun k => counterpanelaw09_InvertTells.f k p.f0 p.f1 p.f2 p.f3 p.f4 p.f5 p.f6 l) true from h.rounds
  have fin : ∀ b, Ev (fun k => counterpanelaw09_InvertTells.j0 k l true b p.f0 p.f1 p.f2 p.f3 p.f4 p.f5 p.f6) true := by
    intro b
    obtain ⟨r, hr, hi⟩ := same08 (invS p) (invS p) (ok_inv hp)
    obtain rfl := hi.2 rfl
    obtain ⟨s, hs, hj⟩ := sameList (l.reverse.map invS) (l.reverse.map invS) (by simp; omega) (fun x hx => by
      obtain ⟨y, hy, rfl⟩ := List.mem_map.1 hx
      exact ok_inv (hl y (List.mem_reverse.1 hy)))
    obtain rfl := hj.2 rfl
    have ha : invert_All.f l = some (l.reverse.map invS) := if_pos hn
    cases b with
    | true => exact Ev.step (f := fun _ => some true) (fun k => by simp only [counterpanelaw09_InvertTells.j0]; rfl) (Ev.now _)
    | false =>
      refine Ev.step (f := fun k => (counterpaneref08_Same.f k (invS p).f0 (invS p).f1 (invS p).f2 (invS p).f3 (invS p).f4 (invS p).f5 (invS p).f6 (invS p).f0 (invS p).f1 (invS p).f2 (invS p).f3 (invS p).f4 (invS p).f5 (invS p).f6).bind fun t => if t = true then (counterpaneref09_All.f k l).bind fun t160 => (counterpaneref08_SameList.f k (l.reverse.map invS) t160).bind fun t163 => some t163 else some false) (fun k => ?_)
        (Ev.bind hr (Ev.congr (fun k => if_pos rfl) (Ev.bind (rall l hn) (Ev.bind hs (Ev.now _)))))
      simp only [counterpanelaw09_InvertTells.j0, invert_Invert.f, counterpaneref09_Invert.f, Option.bind_some, ha, Bool.false_eq_true, if_false, if_true]
  obtain ⟨g, hg, _⟩ := great p hp
  obtain ⟨m, hm, _⟩ := greatList l (by omega) hl
  show Ev (fun k => (counterpanelaw08_Great.f k p.f0 p.f1 p.f2 p.f3 p.f4 p.f5 p.f6).bind fun t => if t = true then counterpanelaw09_InvertTells.j0 k l true true p.f0 p.f1 p.f2 p.f3 p.f4 p.f5 p.f6 else (counterpanelaw08_GreatList.f k l).bind fun u => counterpanelaw09_InvertTells.j0 k l true u p.f0 p.f1 p.f2 p.f3 p.f4 p.f5 p.f6) true
  refine Ev.bind hg ?_
  cases g with
  | true => exact Ev.congr (fun k => if_pos rfl) (fin true)
  | false => exact Ev.congr (fun k => if_neg (by simp)) (Ev.bind (f := fun k u => counterpanelaw09_InvertTells.j0 k l true u p.f0 p.f1 p.f2 p.f3 p.f4 p.f5 p.f6) hm (fin m))

/-- InvertRow. -/
theorem invertRow (a b : List S24) (hn : a.length ≤ 1256584717458) (ha : ∀ x ∈ a, Ok24 x) (hm : b.length ≤ 1256584717458) (hb : ∀ x ∈ b, Ok24 x) : ∃ k, counterpanelaw09_InvertRow.f k a b = some true := by
  suffices h : Ev (fun k => counterpanelaw09_InvertRow.f k a b) true from h.rounds
  have fin : ∀ g : Bool, (g = false → a.length ≤ 60 ∧ b.length ≤ 60) → Ev (fun k => counterpanelaw09_InvertRow.j0 k a b true g) true := by
    intro g hg
    cases g with
    | true => exact Ev.step (f := fun _ => some true) (fun k => by simp only [counterpanelaw09_InvertRow.j0]; rfl) (Ev.now _)
    | false =>
      obtain ⟨la, lb⟩ := hg rfl
      have ea : invert_All.f a = some (a.reverse.map invS) := if_pos hn
      have eb : invert_All.f b = some (b.reverse.map invS) := if_pos hm
      have eab : invert_All.f (([] ++ a) ++ b) = some (b.reverse.map invS ++ a.reverse.map invS) := by
        have : (([] ++ a) ++ b).length ≤ 1256584717458 := by simp; omega
        unfold invert_All.f
        rw [if_pos this]
        simp
      obtain ⟨s, hs, hj⟩ := sameList (b.reverse.map invS ++ a.reverse.map invS) ([] ++ b.reverse.map invS ++ a.reverse.map invS) (by simp; omega) (fun x hx => by
        rcases List.mem_append.1 hx with hx | hx
        · obtain ⟨y, hy, rfl⟩ := List.mem_map.1 hx
          exact ok_inv (hb y (List.mem_reverse.1 hy))
        · obtain ⟨y, hy, rfl⟩ := List.mem_map.1 hx
          exact ok_inv (ha y (List.mem_reverse.1 hy)))
      obtain rfl := hj.2 (by simp)
      refine Ev.step (f := fun k => (counterpaneref08_SameList.f k (b.reverse.map invS ++ a.reverse.map invS) ([] ++ b.reverse.map invS ++ a.reverse.map invS)).bind fun t => if t = true then some true else some false) (fun k => ?_) (Ev.bind hs (Ev.congr (fun k => if_pos rfl) (Ev.now _)))
      have c1 : ([] : List S24).length + a.length < 1256584717458 := by simp; omega
      have c2 : (([] : List S24) ++ a).length + b.length < 1256584717458 := by simp; omega
      have c3 : ([] : List S24).length + (b.reverse.map invS).length < 1256584717458 := by simp; omega
      have c4 : (([] : List S24) ++ b.reverse.map invS).length + (a.reverse.map invS).length < 1256584717458 := by simp; omega
      have c5 : (((a.reverse.map invS).length : Int) == (a.length : Int)) = true := by simp
      simp only [counterpanelaw09_InvertRow.j0, Option.bind_some, Bool.false_eq_true, if_false]
      rw [if_pos c1, if_pos c2]
      simp only [eb, Option.bind_some]
      rw [if_pos c3]
      simp only [ea, Option.bind_some]
      rw [if_pos c4]
      simp only [if_true, eab, Option.bind_some, c5]
  obtain ⟨g, hg, h1⟩ := greatList a (by omega) ha
  obtain ⟨m, hm', h2⟩ := greatList b (by omega) hb
  show Ev (fun k => (counterpanelaw08_GreatList.f k a).bind fun t => if t = true then counterpanelaw09_InvertRow.j0 k a b true true else (counterpanelaw08_GreatList.f k b).bind fun u => counterpanelaw09_InvertRow.j0 k a b true u) true
  refine Ev.bind hg ?_
  cases g with
  | true => exact Ev.congr (fun k => if_pos rfl) (fin true (fun h => by cases h))
  | false => exact Ev.congr (fun k => if_neg (by simp)) (Ev.bind (f := fun k u => counterpanelaw09_InvertRow.j0 k a b true u) hm' (fin m (fun h => ⟨h1 rfl, h2 h⟩)))
end Go.Proofs.Ythhohbidjhcjeaa.Pl
