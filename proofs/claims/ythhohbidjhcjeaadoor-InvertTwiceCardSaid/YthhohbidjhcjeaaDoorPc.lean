/- Plain laws: which patches are right; what undoes a right patch is right, and is undone to it. -/
import Derived.Test.YthhohbidjhcjeaaDoorPa
import Derived.Test.YthhohbidjhcjeaaDoorQx3
import Derived.Test.YthhohbidjhcjeaaDoorHa
namespace Go.Proofs.YthhohbidjhcjeaaDoor.Pl
open Go.RowKit Go.Proofs.YthhohbidjhcjeaaDoorW.PrintWords Go.Proofs.YthhohbidjhcjeaaDoorW.PrintMore Go.Proofs.YthhohbidjhcjeaaDoor.Q Go.Proofs.YthhohbidjhcjeaaDoor.H

/-- A patch's texts and lists are no longer than they can be. -/
structure Okp (x : S24) : Prop where
  ok : Ok24 x
  s1 : x.f1.size ≤ 140737488355328
  s2 : x.f2.size ≤ 140737488355328
  s3 : x.f3.size ≤ 140737488355328
theorem okp_inv {x : S24} (h : Okp x) : Okp (invS x) := by
  obtain ⟨⟨h5, h6⟩, s1, s2, s3⟩ := h
  have z : (0 : Nat) ≤ 140737488355328 := Nat.zero_le _
  have ze : (⟨#[]⟩ : ByteArray).size ≤ 140737488355328 := Nat.zero_le _
  unfold invS
  repeat' split
  all_goals constructor
  all_goals first | exact ⟨h5, h6⟩ | exact ⟨h6, h5⟩ | exact ⟨z, z⟩ | exact s1 | exact s2 | exact s3 | exact ze

/-! ### paths -/
theorem size_toList (a : ByteArray) : a.toList.length = a.size := by rw [Go.ByteArray.toList_eq]; rfl
/-- Does a text lie in another one? -/
def withinB (a b : ByteArray) : Bool := if (a.extract 0 b.size).toList = b.toList ∧ b.size ≤ a.size then (if (a.extract b.size a.size).toList = [] then true else bt (a.extract b.size a.size) 0 == 47) else false
theorem within_f (a b : ByteArray) : path_Within.f a b = some (withinB a b) := by
  unfold path_Within.f strings_CutPrefix.f stringslite_CutPrefix.f stringslite_HasPrefix.f withinB
  by_cases h : b.size ≤ a.size
  · have h1 : (a.size : Int) ≥ (b.size : Int) := by omega
    have h2 : (b.size : Int) ≤ (a.size : Int) := h1
    have h3 : (0 : Int) ≤ (b.size : Int) := by omega
    by_cases he : (a.extract 0 b.size).toList = b.toList
    · have he' : ((a.extract 0 b.size).toList == b.toList) = true := by simpa using he
      simp only [if_pos h1, if_pos h3, Int.toNat_natCast, Option.bind_some, he', if_true, if_pos (And.intro he h)]
      by_cases hz : (a.extract b.size a.size).toList = []
      · simp only [hz, if_true]
      · have hp : (0 : Int) < ((a.extract b.size a.size).size : Int) := by
          have := size_toList (a.extract b.size a.size)
          have : (a.extract b.size a.size).toList.length ≠ 0 := fun e => hz (List.length_eq_zero_iff.1 e)
          omega
        simp only [hz, if_false, if_pos hp]
    · have he' : ((a.extract 0 b.size).toList == b.toList) = false := by simpa using he
      have hn : ¬ ((a.extract 0 b.size).toList = b.toList ∧ b.size ≤ a.size) := fun e => he e.1
      simp only [if_pos h1, if_pos h3, Int.toNat_natCast, Option.bind_some, he', Bool.false_eq_true, if_false, if_neg hn]
  · have h1 : ¬ (a.size : Int) ≥ (b.size : Int) := by omega
    have hn : ¬ ((a.extract 0 b.size).toList = b.toList ∧ b.size ≤ a.size) := fun e => h e.2
    simp only [if_neg h1, Option.bind_some, Bool.false_eq_true, if_false, if_neg hn]
def apartB (a b : ByteArray) : Bool := if withinB a b = true then false else !withinB b a
theorem apart_f (a b : ByteArray) : path_Apart.f a b = some (apartB a b) := by
  unfold path_Apart.f apartB
  rw [within_f, within_f]
  cases withinB a b <;> rfl
theorem apart_comm (a b : ByteArray) : apartB a b = apartB b a := by
  unfold apartB
  cases withinB a b <;> cases withinB b a <;> rfl

/-! ### tokens -/
def inB (c : Int) : Bool := (lines_in.f c).getD false
theorem in_f (c : Int) : lines_in.f c = some (inB c) := by
  have : ∃ r, lines_in.f c = some r := by
    unfold lines_in.f
    repeat' split
    all_goals exact ⟨_, rfl⟩
  obtain ⟨r, hr⟩ := this
  rw [inB, hr]
  rfl
def tokenB (s : ByteArray) : Bool := s.data.toList.all (fun b => inB (b.toNat : Int)) && (s.toList != ([] : List UInt8))
theorem token_l (s : ByteArray) (hn : s.size ≤ 140737488355328) : ∀ (d i : Nat), i + d = s.size → Ev (fun k => lines_Token.l0 k s (s.size : Int) (i : Int)) ((s.data.toList.drop i).all (fun b => inB (b.toNat : Int)) && (s.toList != ([] : List UInt8))) := by
  have hsl : s.data.toList.length = s.size := by rw [Array.length_toList]; rfl
  intro d
  induction d with
  | zero =>
    intro i hi
    refine Ev.step (f := fun _ => some (s.toList != ([] : List UInt8))) (fun k => ?_) ?_
    · simp only [lines_Token.l0]
      rw [if_neg (by omega)]
    · rw [List.drop_of_length_le (by omega)]
      simpa using Ev.now _
  | succ d ih =>
    intro i hi
    have h1 : i < s.data.toList.length := by omega
    have h2 : i < s.size := by omega
    have ed : s.data.toList.drop i = s.data.toList[i] :: s.data.toList.drop (i + 1) := List.drop_eq_getElem_cons h1
    have eb : bt s (i : Int) = (s.data.toList[i].toNat : Int) := by
      have := bt_at s (i : Int) (by rw [Int.toNat_natCast]; exact h2)
      rw [← this]
      simp only [Int.toNat_natCast]
      rfl
    have key := ih (i + 1) (by omega)
    rw [ed, List.all_cons]
    cases hb : inB (s.data.toList[i].toNat : Int) with
    | true =>
      rw [Bool.true_and]
      refine Ev.step (f := fun k => lines_Token.l0 k s (s.size : Int) ((i + 1 : Nat) : Int)) (fun k => ?_) key
      simp only [lines_Token.l0]
      rw [if_pos (by omega), if_pos (by omega), if_pos (by omega), eb, in_f, hb, Option.bind_some, if_pos rfl, wrap_1 h2 hn]
    | false =>
      rw [Bool.false_and, Bool.false_and]
      refine Ev.step (f := fun _ => some false) (fun k => ?_) (Ev.now _)
      simp only [lines_Token.l0]
      rw [if_pos (by omega), if_pos (by omega), if_pos (by omega), eb, in_f, hb, Option.bind_some, if_neg (by simp)]
theorem token (s : ByteArray) (hn : s.size ≤ 140737488355328) : Ev (fun k => lines_Token.f k s) (tokenB s) := by
  have h := token_l s hn s.size 0 (by omega)
  rw [List.drop_zero] at h
  exact h

/-! ### patches -/
def listedB (x : S24) : Bool := decide (0 < x.f5.length + x.f6.length) || x.f4 != 0
def kindB (x : S24) : Bool :=
  if x.f0 = 8 then tokenB x.f3 && tokenB x.f2 && (x.f3.toList != x.f2.toList)
  else if x.f0 = 9 then (x.f3.toList != x.f2.toList)
  else if x.f3.toList = ([] : List UInt8) then
    if x.f0 = 10 then rightB x.f2 && apartB x.f1 x.f2
    else if x.f0 = 7 then decide (x.f2.toList = ([] : List UInt8)) && decide (x.f4 ≥ 0) && decide (x.f4 ≤ 1073741824) && linesB x.f5 && linesB x.f6 && decide (0 < x.f5.length + x.f6.length)
    else decide (x.f2.toList = ([] : List UInt8)) && decide (x.f0 ≥ 1) && decide (x.f0 ≤ 6)
  else false
def primB (x : S24) : Bool := rightB x.f1 && !(listedB x && x.f0 != 7) && kindB x
theorem path_f (s : ByteArray) (h : s.size ≤ 140737488355328) : path_Right.f s = some (rightB s) := if_pos h
theorem kind_j (x : S24) (hx : Okp x) : Ev (fun k => prim_Right.j1 k false x.f0 x.f1 x.f2 x.f3 x.f4 x.f5 x.f6) (kindB x) := by
  have p2 := path_f x.f2 hx.s2
  have t3 := token x.f3 hx.s3
  have t2 := token x.f2 hx.s2
  have k5 := hx.ok.1
  have k6 := hx.ok.2
  unfold kindB
  by_cases h8 : x.f0 = 8
  · rw [if_pos h8]
    refine Ev.step (f := fun k => (lines_Token.f k x.f3).bind fun t => if t = true then (lines_Token.f k x.f2).bind fun u => if u = true then some (x.f3.toList != x.f2.toList) else some false else some false) (fun k => ?_) ?_
    · simp only [prim_Right.j1, if_pos h8, Bool.false_eq_true, if_false]
    · cases h3 : tokenB x.f3 with
      | false =>
        rw [h3] at t3
        exact Ev.bind t3 (Ev.now _)
      | true =>
        rw [h3] at t3
        refine Ev.bind t3 ?_
        cases h2 : tokenB x.f2 with
        | false =>
          rw [h2] at t2
          exact Ev.bind t2 (Ev.now _)
        | true =>
          rw [h2] at t2
          exact Ev.bind t2 (Ev.now _)
  · rw [if_neg h8]
    refine Ev.step (f := fun _ => some _) (fun k => ?_) (Ev.now _)
    simp only [prim_Right.j1, if_neg h8, Bool.false_eq_true, if_false]
    by_cases h9 : x.f0 = 9
    · rw [if_pos h9, if_pos h9]
    · rw [if_neg h9, if_neg h9]
      by_cases h3 : x.f3.toList = ([] : List UInt8)
      · rw [if_pos h3, if_pos h3]
        by_cases h10 : x.f0 = 10
        · rw [if_pos h10, if_pos h10, p2, Option.bind_some, apart_f]
          cases rightB x.f2 <;> rfl
        · rw [if_neg h10, if_neg h10]
          by_cases h7 : x.f0 = 7
          · rw [if_pos h7, if_pos h7, wrap_id (by omega) (by omega)]
            have e : decide ((x.f5.length : Int) + (x.f6.length : Int) > 0) = decide (0 < x.f5.length + x.f6.length) := decide_eq_decide.2 (by omega)
            rw [e]
            by_cases h2 : x.f2.toList = ([] : List UInt8) <;> by_cases ha : x.f4 ≥ 0 <;> by_cases hb : x.f4 ≤ 1073741824 <;> cases h5 : linesB x.f5 <;> cases h6 : linesB x.f6 <;> simp [h2, ha, hb, h5, h6, lines_Right.f]
          · rw [if_neg h7, if_neg h7]
            by_cases h2 : x.f2.toList = ([] : List UInt8) <;> by_cases ha : x.f0 ≥ 1 <;> simp [h2, ha]
      · rw [if_neg h3, if_neg h3]
theorem prim_right (x : S24) (hx : Okp x) : Ev (fun k => prim_Right.f k x.f0 x.f1 x.f2 x.f3 x.f4 x.f5 x.f6) (primB x) := by
  have p1 := path_f x.f1 hx.s1
  have kj := kind_j x hx
  have k5 := hx.ok.1
  have k6 := hx.ok.2
  have yes : Ev (fun k => prim_Right.j1 k true x.f0 x.f1 x.f2 x.f3 x.f4 x.f5 x.f6) false := Ev.step (f := fun _ => some false) (fun k => by simp only [prim_Right.j1, if_true]) (Ev.now _)
  have j0 : ∀ b : Bool, Ev (fun k => prim_Right.j0 k b x.f0 x.f1 x.f2 x.f3 x.f4 x.f5 x.f6) (rightB x.f1 && !(b && x.f0 != 7) && kindB x) := by
    intro b
    cases hr : rightB x.f1 with
    | false =>
      refine Ev.step (f := fun k => prim_Right.j1 k true x.f0 x.f1 x.f2 x.f3 x.f4 x.f5 x.f6) (fun k => ?_) yes
      simp only [prim_Right.j0, p1, hr, Option.bind_some, Bool.false_eq_true, if_false, Bool.not_false]
    | true =>
      cases b with
      | false =>
        refine Ev.step (f := fun k => prim_Right.j1 k false x.f0 x.f1 x.f2 x.f3 x.f4 x.f5 x.f6) (fun k => ?_) (by simpa using kj)
        simp only [prim_Right.j0, p1, hr, Option.bind_some, Bool.false_eq_true, if_false, if_true]
      | true =>
        cases h7 : (x.f0 != 7) with
        | false =>
          refine Ev.step (f := fun k => prim_Right.j1 k false x.f0 x.f1 x.f2 x.f3 x.f4 x.f5 x.f6) (fun k => ?_) (by simpa using kj)
          simp only [prim_Right.j0, p1, hr, h7, Option.bind_some, if_true]
        | true =>
          refine Ev.step (f := fun k => prim_Right.j1 k true x.f0 x.f1 x.f2 x.f3 x.f4 x.f5 x.f6) (fun k => ?_) (by simpa using yes)
          simp only [prim_Right.j0, p1, hr, h7, Option.bind_some, if_true]
  unfold prim_Right.f primB listedB
  by_cases h : 0 < x.f5.length + x.f6.length
  · have hw : wrap64 ((x.f5.length : Int) + (x.f6.length : Int)) > 0 := by rw [wrap_id (by omega) (by omega)]; omega
    have := j0 true
    refine Ev.congr (fun k => if_pos hw) ?_
    rw [decide_eq_true h, Bool.true_or]
    exact this
  · have hw : ¬ wrap64 ((x.f5.length : Int) + (x.f6.length : Int)) > 0 := by rw [wrap_id (by omega) (by omega)]; omega
    refine Ev.congr (fun k => if_neg hw) ?_
    rw [decide_eq_false h, Bool.false_or]
    exact j0 (x.f4 != 0)
end Go.Proofs.YthhohbidjhcjeaaDoor.Pl
