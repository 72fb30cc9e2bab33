/- Plain laws of the functions that the statements share: sizes, likeness of patches. Plain laws: which patches are right; what undoes a right patch is right, and is undone to it. Small facts of texts and of right patches. -/
import Derived.Test.YthhohbidjhcjeaaDoorTQx1
import Derived.Test.YthhohbidjhcjeaaDoorTQx4
import Derived.Laws.Strings
import Derived.Test.YthhohbidjhcjeaaDoorTQx3
import Derived.Test.YthhohbidjhcjeaaDoorTHa
import Derived.Laws.RangeAny
namespace Go.Proofs.YthhohbidjhcjeaaDoor.Pl
open Go.RowKit Go.Proofs.YthhohbidjhcjeaaDoorW.PrintWords Go.Proofs.YthhohbidjhcjeaaDoorW.PrintMore Go.Proofs.YthhohbidjhcjeaaDoor.Q

theorem toList_inj {a b : ByteArray} (h : a.toList = b.toList) : a = b:=by
 rw [Go.ByteArray.toList_eq,Go.ByteArray.toList_eq] at h
 obtain ⟨⟨a⟩⟩:=a
 obtain ⟨⟨b⟩⟩:=b
 simp at h
 rw [h]
theorem wrap_id {i : Int} (h0 : -9223372036854775808 ≤ i) (h : i ≤ 9223372036854775807) : wrap64 i = i:=by
 unfold wrap64
 omega
theorem wrap_1 {i n : Nat} (h : i < n) (hn : n ≤ 140737488355328) : wrap64 ((i : Int) + 1) = ((i + 1 : Nat) : Int):=by
 unfold wrap64
 omega
theorem mn_le (a b : Int) : mn a b ≤ b:=by unfold mn; split <;> omega
theorem mn_nn {a b : Int} (ha : 0 ≤ a) (hb : 0 ≤ b) : 0 ≤ mn a b:=by unfold mn; split <;> omega
theorem rdOf_get {α : Type} (d : α) (xs : List α) {i : Nat} (h : i < xs.length) : rdOf d xs (i : Int) = xs[i]:=by
 simp [rdOf,List.getD_eq_getElem?_getD,h]
theorem rd_T24_get (xs : List S24) {i : Nat} (h : i < xs.length) : rd_T24 xs (i : Int) = xs[i]:=by
 simp [rd_T24,List.getD_eq_getElem?_getD,h]

/-! ### texts alike -/
theorem same05_l (a b : List ByteArray) (hl : a.length = b.length) (hn : a.length ≤ 140737488355328) : ∀ (d i : Nat),i + d = a.length → ∃ r,Ev (fun k => counterpaneref05_Same.l0 k a b (i : Int)) r ∧ (r = true ↔ a.drop i = b.drop i):=by
 intro d
 induction d with
 | zero =>
  intro i hi
  refine ⟨true,Ev.step (f:=fun _ => some true) (fun k => ?_) (Ev.now _),?_⟩
  ·simp only [counterpaneref05_Same.l0]
   rw [if_neg (by omega)]
  ·rw [List.drop_of_length_le (by omega),List.drop_of_length_le (by omega)]
   simp
 | succ d ih =>
  intro i hi
  have h1 : i < a.length:=by omega
  have h2 : i < b.length:=by omega
  have ea : a.drop i = a[i] :: a.drop (i + 1):=List.drop_eq_getElem_cons h1
  have eb : b.drop i = b[i] :: b.drop (i + 1):=List.drop_eq_getElem_cons h2
  by_cases hc : a[i] = b[i]
  ·obtain ⟨r,hr,hiff⟩:=ih (i + 1) (by omega)
   refine ⟨r,Ev.step (f:=fun k => counterpaneref05_Same.l0 k a b ((i + 1 : Nat) : Int)) (fun k => ?_) hr,?_⟩
   ·simp only [counterpaneref05_Same.l0]
    rw [if_pos (by omega),if_pos (by omega),if_pos (by omega),rdOf_get _ _ h1,rdOf_get _ _ h2,if_pos (by rw [hc]),wrap_1 h1 hn]
   ·rw [ea,eb,hiff,hc]
    exact ⟨fun h => by rw [h],fun h => (List.cons.inj h).2⟩
  ·refine ⟨false,Ev.step (f:=fun _ => some false) (fun k => ?_) (Ev.now _),?_⟩
   ·simp only [counterpaneref05_Same.l0]
    rw [if_pos (by omega),if_pos (by omega),if_pos (by omega),rdOf_get _ _ h1,rdOf_get _ _ h2,if_neg (fun h => hc (toList_inj h))]
   ·rw [ea,eb]
    exact ⟨fun h => (by cases h),fun h => absurd (List.cons.inj h).1 hc⟩
theorem same05 (a b : List ByteArray) (hn : a.length ≤ 140737488355328) : ∃ r,Ev (fun k => counterpaneref05_Same.f k a b) r ∧ (r = true ↔ a = b):=by
 by_cases hl : a.length = b.length
 ·obtain ⟨r,hr,hiff⟩:=same05_l a b hl hn a.length 0 (by omega)
  refine ⟨r,Ev.congr (fun k => ?_) hr,by simpa using hiff⟩
  unfold counterpaneref05_Same.f
  rw [if_pos (by omega)]
  rfl
 ·refine ⟨false,Ev.congr (fun k => ?_) (Ev.now _),?_⟩
  ·unfold counterpaneref05_Same.f
   rw [if_neg (by omega)]
  ·simp only [Bool.false_eq_true,false_iff]
   rintro rfl
   exact hl rfl

/-! ### patches alike -/
/-- A patch's lists are no longer than lists can be. -/
def Ok24 (x : S24) : Prop:=x.f5.length ≤ 140737488355328 ∧ x.f6.length ≤ 140737488355328
theorem same08 (x y : S24) (hx : Ok24 x) : ∃ r,Ev (fun k => counterpaneref08_Same.f k x.f0 x.f1 x.f2 x.f3 x.f4 x.f5 x.f6 y.f0 y.f1 y.f2 y.f3 y.f4 y.f5 y.f6) r ∧ (r = true ↔ x = y):=by
 obtain ⟨x0,x1,x2,x3,x4,x5,x6⟩:=x
 obtain ⟨y0,y1,y2,y3,y4,y5,y6⟩:=y
 unfold counterpaneref08_Same.f
 rcases Classical.em (x0 = y0) with h0 | h0
 rotate_left
 ·exact ⟨false,Ev.congr (fun k => if_neg h0) (Ev.now _),by simp [h0]⟩
 rcases Classical.em (x1 = y1) with h1 | h1
 rotate_left
 ·exact ⟨false,Ev.congr (fun k => (if_pos h0).trans (if_neg (fun h => h1 (toList_inj h)))) (Ev.now _),by simp [h1]⟩
 rcases Classical.em (x2 = y2) with h2 | h2
 rotate_left
 ·exact ⟨false,Ev.congr (fun k => (if_pos h0).trans ((if_pos (by rw [h1])).trans (if_neg (fun h => h2 (toList_inj h))))) (Ev.now _),by simp [h2]⟩
 rcases Classical.em (x3 = y3) with h3 | h3
 rotate_left
 ·exact ⟨false,Ev.congr (fun k => (if_pos h0).trans ((if_pos (by rw [h1])).trans ((if_pos (by rw [h2])).trans (if_neg (fun h => h3 (toList_inj h)))))) (Ev.now _),by simp [h3]⟩
 rcases Classical.em (x4 = y4) with h4 | h4
 rotate_left
 ·exact ⟨false,Ev.congr (fun k => (if_pos h0).trans ((if_pos (by rw [h1])).trans ((if_pos (by rw [h2])).trans ((if_pos (by rw [h3])).trans (if_neg h4))))) (Ev.now _),by simp [h4]⟩
 subst h0 h1 h2 h3 h4
 simp only [if_true]
 obtain ⟨r5,e5,i5⟩:=same05 x5 y5 hx.1
 obtain ⟨r6,e6,i6⟩:=same05 x6 y6 hx.2
 cases r5 with
 | false =>
  refine ⟨false,Ev.bind e5 (Ev.congr (fun k => if_neg (by simp)) (Ev.now _)),?_⟩
  have h5 : ¬ x5 = y5:=fun h => by have:=i5.2 h; cases this
  simp [h5]
 | true =>
  have h5 : x5 = y5:=i5.1 rfl
  refine ⟨r6,Ev.bind e5 (Ev.congr (fun k => if_pos rfl) (Ev.bind e6 (Ev.now _))),?_⟩
  rw [i6]
  simp [h5]

theorem sameList_l (a b : List S24) (hl : a.length = b.length) (hn : a.length ≤ 140737488355328) (hok : ∀ x ∈ a,Ok24 x) : ∀ (d i : Nat),i + d = a.length → ∃ r,Ev (fun k => counterpaneref08_SameList.l0 k a b (i : Int)) r ∧ (r = true ↔ a.drop i = b.drop i):=by
 intro d
 induction d with
 | zero =>
  intro i hi
  refine ⟨true,Ev.step (f:=fun _ => some true) (fun k => ?_) (Ev.now _),?_⟩
  ·simp only [counterpaneref08_SameList.l0]
   rw [if_neg (by omega)]
  ·rw [List.drop_of_length_le (by omega),List.drop_of_length_le (by omega)]
   simp
 | succ d ih =>
  intro i hi
  have h1 : i < a.length:=by omega
  have h2 : i < b.length:=by omega
  have ea : a.drop i = a[i] :: a.drop (i + 1):=List.drop_eq_getElem_cons h1
  have eb : b.drop i = b[i] :: b.drop (i + 1):=List.drop_eq_getElem_cons h2
  obtain ⟨s,hs,his⟩:=same08 a[i] b[i] (hok _ (List.getElem_mem h1))
  cases s with
  | true =>
   obtain ⟨r,hr,hiff⟩:=ih (i + 1) (by omega)
   refine ⟨r,Ev.step (f:=fun k => (counterpaneref08_Same.f k a[i].f0 a[i].f1 a[i].f2 a[i].f3 a[i].f4 a[i].f5 a[i].f6 b[i].f0 b[i].f1 b[i].f2 b[i].f3 b[i].f4 b[i].f5 b[i].f6).bind fun t => if t = true then counterpaneref08_SameList.l0 k a b ((i + 1 : Nat) : Int) else some false) (fun k => ?_) (Ev.bind hs (Ev.congr (fun k => if_pos rfl) hr)),?_⟩
   ·simp only [counterpaneref08_SameList.l0]
    rw [if_pos (by omega),if_pos (by omega),if_pos (by omega),rd_T24_get _ h1,rd_T24_get _ h2,wrap_1 h1 hn]
   ·rw [ea,eb,hiff,his.1 rfl]
    exact ⟨fun h => by rw [h],fun h => (List.cons.inj h).2⟩
  | false =>
   refine ⟨false,Ev.step (f:=fun k => (counterpaneref08_Same.f k a[i].f0 a[i].f1 a[i].f2 a[i].f3 a[i].f4 a[i].f5 a[i].f6 b[i].f0 b[i].f1 b[i].f2 b[i].f3 b[i].f4 b[i].f5 b[i].f6).bind fun t => if t = true then counterpaneref08_SameList.l0 k a b ((i + 1 : Nat) : Int) else some false) (fun k => ?_) (Ev.bind hs (Ev.congr (fun k => if_neg (by simp)) (Ev.now _))),?_⟩
   ·simp only [counterpaneref08_SameList.l0]
    rw [if_pos (by omega),if_pos (by omega),if_pos (by omega),rd_T24_get _ h1,rd_T24_get _ h2,wrap_1 h1 hn]
   ·have hne : ¬ a[i] = b[i]:=fun h => by have:=his.2 h; cases this
    rw [ea,eb]
    exact ⟨fun h => (by cases h),fun h => absurd (List.cons.inj h).1 hne⟩
theorem sameList (a b : List S24) (hn : a.length ≤ 140737488355328) (hok : ∀ x ∈ a,Ok24 x) : ∃ r,Ev (fun k => counterpaneref08_SameList.f k a b) r ∧ (r = true ↔ a = b):=by
 by_cases hl : a.length = b.length
 ·obtain ⟨r,hr,hiff⟩:=sameList_l a b hl hn hok a.length 0 (by omega)
  refine ⟨r,Ev.congr (fun k => ?_) hr,by simpa using hiff⟩
  unfold counterpaneref08_SameList.f
  rw [if_pos (by omega)]
  rfl
 ·refine ⟨false,Ev.congr (fun k => ?_) (Ev.now _),?_⟩
  ·unfold counterpaneref08_SameList.f
   rw [if_neg (by omega)]
  ·simp only [Bool.false_eq_true,false_iff]
   rintro rfl
   exact hl rfl

/-! ### is a patch too much? -/
theorem great_l1 (x : S24) (hx : Ok24 x) : ∀ (d i : Nat) (n : Int),i + d = x.f6.length → 0 ≤ n → n ≤ 1000000000000000000 → ∃ r,Ev (fun k => counterpanelaw08_Great.l1 k n (i : Int) x.f0 x.f1 x.f2 x.f3 x.f4 x.f5 x.f6) r ∧ (r = false → n < 4000):=by
 intro d
 induction d with
 | zero =>
  intro i n hi h0 hm
  refine ⟨decide (n ≥ 4000),Ev.step (f:=fun _ => some (decide (n ≥ 4000))) (fun k => ?_) (Ev.now _),?_⟩
  ·simp only [counterpanelaw08_Great.l1]
   rw [if_neg (by omega)]
  ·intro h; simpa using h
 | succ d ih =>
  intro i n hi h0 hm
  have h1 : i < x.f6.length:=by omega
  by_cases hn : n < 4000
  ·have hb:=mn_le ((rdOf ByteArray.empty x.f6 (i : Int)).size : Int) 4000
   have hb0:=mn_nn (a:=((rdOf ByteArray.empty x.f6 (i : Int)).size : Int)) (b:=4000) (by omega) (by omega)
   obtain ⟨r,hr,hlt⟩:=ih (i + 1) (n + mn ((rdOf ByteArray.empty x.f6 (i : Int)).size : Int) 4000) (by omega) (by omega) (by omega)
   refine ⟨r,Ev.step (f:=fun k => counterpanelaw08_Great.l1 k (n + mn ((rdOf ByteArray.empty x.f6 (i : Int)).size : Int) 4000) ((i + 1 : Nat) : Int) x.f0 x.f1 x.f2 x.f3 x.f4 x.f5 x.f6) (fun k => ?_) hr,fun _ => hn⟩
   simp only [counterpanelaw08_Great.l1]
   rw [if_pos (by omega),if_pos hn,if_pos (by omega),wrap_1 h1 hx.2,wrap_id (by omega) (by omega)]
  ·refine ⟨decide (n ≥ 4000),Ev.step (f:=fun _ => some (decide (n ≥ 4000))) (fun k => ?_) (Ev.now _),?_⟩
   ·simp only [counterpanelaw08_Great.l1]
    rw [if_pos (by omega),if_neg hn]
   ·intro h; simpa using h
theorem great_j1 (x : S24) (hx : Ok24 x) (n : Int) (h0 : 0 ≤ n) (hm : n ≤ 1000000000000000000) : ∃ r,Ev (fun k => counterpanelaw08_Great.j1 k n x.f0 x.f1 x.f2 x.f3 x.f4 x.f5 x.f6) r ∧ (r = false → n < 4000):=by
 obtain ⟨r,hr,h⟩:=great_l1 x hx x.f6.length 0 n (by omega) h0 hm
 exact ⟨r,Ev.step (f:=fun k => counterpanelaw08_Great.l1 k n ((0 : Nat) : Int) x.f0 x.f1 x.f2 x.f3 x.f4 x.f5 x.f6) (fun k => by simp only [counterpanelaw08_Great.j1]; rfl) hr,h⟩
theorem great_l0 (x : S24) (hx : Ok24 x) : ∀ (d i : Nat) (n : Int),i + d = x.f5.length → 0 ≤ n → n ≤ 1000000000000000000 → ∃ r,Ev (fun k => counterpanelaw08_Great.l0 k n (i : Int) x.f0 x.f1 x.f2 x.f3 x.f4 x.f5 x.f6) r ∧ (r = false → n < 4000):=by
 intro d
 induction d with
 | zero =>
  intro i n hi h0 hm
  obtain ⟨r,hr,h⟩:=great_j1 x hx n h0 hm
  refine ⟨r,Ev.step (f:=fun k => counterpanelaw08_Great.j1 k n x.f0 x.f1 x.f2 x.f3 x.f4 x.f5 x.f6) (fun k => ?_) hr,h⟩
  simp only [counterpanelaw08_Great.l0]
  rw [if_neg (by omega)]
 | succ d ih =>
  intro i n hi h0 hm
  have h1 : i < x.f5.length:=by omega
  by_cases hn : n < 4000
  ·have hb:=mn_le ((rdOf ByteArray.empty x.f5 (i : Int)).size : Int) 4000
   have hb0:=mn_nn (a:=((rdOf ByteArray.empty x.f5 (i : Int)).size : Int)) (b:=4000) (by omega) (by omega)
   obtain ⟨r,hr,hlt⟩:=ih (i + 1) (n + mn ((rdOf ByteArray.empty x.f5 (i : Int)).size : Int) 4000) (by omega) (by omega) (by omega)
   refine ⟨r,Ev.step (f:=fun k => counterpanelaw08_Great.l0 k (n + mn ((rdOf ByteArray.empty x.f5 (i : Int)).size : Int) 4000) ((i + 1 : Nat) : Int) x.f0 x.f1 x.f2 x.f3 x.f4 x.f5 x.f6) (fun k => ?_) hr,fun _ => hn⟩
   simp only [counterpanelaw08_Great.l0]
   rw [if_pos (by omega),if_pos hn,if_pos (by omega),wrap_1 h1 hx.1,wrap_id (by omega) (by omega)]
  ·obtain ⟨r,hr,h⟩:=great_j1 x hx n h0 hm
   refine ⟨r,Ev.step (f:=fun k => counterpanelaw08_Great.j1 k n x.f0 x.f1 x.f2 x.f3 x.f4 x.f5 x.f6) (fun k => ?_) hr,h⟩
   simp only [counterpanelaw08_Great.l0]
   rw [if_pos (by omega),if_neg hn]
/-- Great answers; where it says no, the lists are short. -/
theorem great (x : S24) (hx : Ok24 x) : ∃ r,Ev (fun k => counterpanelaw08_Great.f k x.f0 x.f1 x.f2 x.f3 x.f4 x.f5 x.f6) r ∧ (r = false → x.f5.length + x.f6.length < 4000):=by
 have b1:=mn_le (x.f1.size : Int) 4000
 have b2:=mn_le (x.f2.size : Int) 4000
 have b3:=mn_le (x.f3.size : Int) 4000
 have c1:=mn_nn (a:=(x.f1.size : Int)) (b:=4000) (by omega) (by omega)
 have c2:=mn_nn (a:=(x.f2.size : Int)) (b:=4000) (by omega) (by omega)
 have c3:=mn_nn (a:=(x.f3.size : Int)) (b:=4000) (by omega) (by omega)
 have k5:=hx.1
 have k6:=hx.2
 obtain ⟨r,hr,h⟩:=great_l0 x hx x.f5.length 0 (mn (x.f1.size : Int) 4000 + mn (x.f2.size : Int) 4000 + mn (x.f3.size : Int) 4000 + (x.f5.length : Int) + (x.f6.length : Int)) (by omega) (by omega) (by omega)
 refine ⟨r,Ev.congr (fun k => ?_) hr,fun he => by have:=h he; omega⟩
 unfold counterpanelaw08_Great.f
 rw [wrap_id (i:=mn (x.f1.size : Int) 4000 + mn (x.f2.size : Int) 4000 + mn (x.f3.size : Int) 4000 + (x.f5.length : Int)) (by omega) (by omega),wrap_id (by omega) (by omega)]
 rfl
theorem greatList_l (a : List S24) (hn : a.length ≤ 140737488355328) (hok : ∀ x ∈ a,Ok24 x) : ∀ (d i : Nat),i + d = a.length → ∃ r,Ev (fun k => counterpanelaw08_GreatList.l0 k a (i : Int)) r:=by
 intro d
 induction d with
 | zero =>
  intro i hi
  refine ⟨false,Ev.step (f:=fun _ => some false) (fun k => ?_) (Ev.now _)⟩
  simp only [counterpanelaw08_GreatList.l0]
  rw [if_neg (by omega)]
 | succ d ih =>
  intro i hi
  have h1 : i < a.length:=by omega
  obtain ⟨s,hs,_⟩:=great a[i] (hok _ (List.getElem_mem h1))
  obtain ⟨r,hr⟩:=ih (i + 1) (by omega)
  refine ⟨if s = true then true else r,Ev.step (f:=fun k => (counterpanelaw08_Great.f k a[i].f0 a[i].f1 a[i].f2 a[i].f3 a[i].f4 a[i].f5 a[i].f6).bind fun t => if t = true then some true else counterpanelaw08_GreatList.l0 k a ((i + 1 : Nat) : Int)) (fun k => ?_) (Ev.bind hs ?_)⟩
  ·simp only [counterpanelaw08_GreatList.l0]
   rw [if_pos (by omega),if_pos (by omega),rd_T24_get _ h1,wrap_1 h1 hn]
  ·cases s with
   | true => exact Ev.congr (fun k => if_pos rfl) (Ev.now _)
   | false => exact Ev.congr (fun k => if_neg (by simp)) hr
/-- GreatList answers; where it says no, there are at most sixty. -/
theorem greatList (a : List S24) (hn : a.length ≤ 140737488355328) (hok : ∀ x ∈ a,Ok24 x) : ∃ r,Ev (fun k => counterpanelaw08_GreatList.f k a) r ∧ (r = false → a.length ≤ 60):=by
 unfold counterpanelaw08_GreatList.f
 by_cases h : (a.length : Int) > 60
 ·exact ⟨true,Ev.congr (fun k => if_pos h) (Ev.now _),fun h => by cases h⟩
 ·obtain ⟨r,hr⟩:=greatList_l a hn hok a.length 0 (by omega)
  exact ⟨r,Ev.congr (fun k => if_neg h) hr,fun _ => by omega⟩
end Go.Proofs.YthhohbidjhcjeaaDoor.Pl

namespace Go.Proofs.YthhohbidjhcjeaaDoor.Pl
open Go.RowKit Go.Proofs.YthhohbidjhcjeaaDoorW.PrintWords Go.Proofs.YthhohbidjhcjeaaDoorW.PrintMore Go.Proofs.YthhohbidjhcjeaaDoor.Q Go.Proofs.YthhohbidjhcjeaaDoor.H

/-- A patch's texts and lists are no longer than they can be. -/
structure Okp (x : S24) : Prop where
 ok : Ok24 x
 s1 : x.f1.size ≤ 140737488355328
 s2 : x.f2.size ≤ 140737488355328
 s3 : x.f3.size ≤ 140737488355328
/-! ### paths -/
theorem size_toList (a : ByteArray) : a.toList.length = a.size:=by rw [Go.ByteArray.toList_eq]; rfl
/-- Does a text lie in another one? -/
def withinB (a b : ByteArray) : Bool:=if (a.extract 0 b.size).toList = b.toList ∧ b.size ≤ a.size then (if (a.extract b.size a.size).toList = [] then true else bt (a.extract b.size a.size) 0 == 47) else false
theorem within_f (a b : ByteArray) : path_Within.f a b = some (withinB a b):=by
 unfold path_Within.f strings_CutPrefix.f stringslite_CutPrefix.f stringslite_HasPrefix.f withinB
 by_cases h : b.size ≤ a.size
 ·have h1 : (a.size : Int) ≥ (b.size : Int):=by omega
  have h2 : (b.size : Int) ≤ (a.size : Int):=h1
  have h3 : (0 : Int) ≤ (b.size : Int):=by omega
  by_cases he : (a.extract 0 b.size).toList = b.toList
  ·have he' : ((a.extract 0 b.size).toList == b.toList) = true:=by simpa using he
   simp only [if_pos h1,if_pos h3,Int.toNat_natCast,Option.bind_some,he',if_true,if_pos (And.intro he h)]
   by_cases hz : (a.extract b.size a.size).toList = []
   ·simp only [hz,if_true]
   ·have hp : (0 : Int) < ((a.extract b.size a.size).size : Int):=by
     have:=size_toList (a.extract b.size a.size)
     have : (a.extract b.size a.size).toList.length ≠ 0:=fun e => hz (List.length_eq_zero_iff.1 e)
     omega
    simp only [hz,if_false,if_pos hp]
  ·have he' : ((a.extract 0 b.size).toList == b.toList) = false:=by simpa using he
   have hn : ¬ ((a.extract 0 b.size).toList = b.toList ∧ b.size ≤ a.size):=fun e => he e.1
   simp only [if_pos h1,if_pos h3,Int.toNat_natCast,Option.bind_some,he',Bool.false_eq_true,if_false,if_neg hn]
 ·have h1 : ¬ (a.size : Int) ≥ (b.size : Int):=by omega
  have hn : ¬ ((a.extract 0 b.size).toList = b.toList ∧ b.size ≤ a.size):=fun e => h e.2
  simp only [if_neg h1,Option.bind_some,Bool.false_eq_true,if_false,if_neg hn]
def apartB (a b : ByteArray) : Bool:=if withinB a b = true then false else !withinB b a
theorem apart_f (a b : ByteArray) : path_Apart.f a b = some (apartB a b):=by
 unfold path_Apart.f apartB
 rw [within_f,within_f]
 cases withinB a b <;> rfl
theorem apart_comm (a b : ByteArray) : apartB a b = apartB b a:=by
 unfold apartB
 cases withinB a b <;> cases withinB b a <;> rfl

/-! ### tokens -/
def inB (c : Int) : Bool:=(lines_in.f c).getD false
theorem in_f (c : Int) : lines_in.f c = some (inB c):=by
 have : ∃ r,lines_in.f c = some r:=by
  unfold lines_in.f
  repeat' split
  all_goals exact ⟨_,rfl⟩
 obtain ⟨r,hr⟩:=this
 rw [inB,hr]
 rfl
def tokenB (s : ByteArray) : Bool:=s.data.toList.all (fun b => inB (b.toNat : Int)) && (s.toList != ([] : List UInt8))
theorem token_l (s : ByteArray) (hn : s.size ≤ 140737488355328) : ∀ (d i : Nat),i + d = s.size → Ev (fun k => lines_Token.l0 k s (s.size : Int) (i : Int)) ((s.data.toList.drop i).all (fun b => inB (b.toNat : Int)) && (s.toList != ([] : List UInt8))):=by
 have hsl : s.data.toList.length = s.size:=by rw [Array.length_toList]; rfl
 intro d
 induction d with
 | zero =>
  intro i hi
  refine Ev.step (f:=fun _ => some (s.toList != ([] : List UInt8))) (fun k => ?_) ?_
  ·simp only [lines_Token.l0]
   rw [if_neg (by omega)]
  ·rw [List.drop_of_length_le (by omega)]
   simpa using Ev.now _
 | succ d ih =>
  intro i hi
  have h1 : i < s.data.toList.length:=by omega
  have h2 : i < s.size:=by omega
  have ed : s.data.toList.drop i = s.data.toList[i] :: s.data.toList.drop (i + 1):=List.drop_eq_getElem_cons h1
  have eb : bt s (i : Int) = (s.data.toList[i].toNat : Int):=by
   have:=bt_at s (i : Int) (by rw [Int.toNat_natCast]; exact h2)
   rw [← this]
   simp only [Int.toNat_natCast]
   rfl
  have key:=ih (i + 1) (by omega)
  rw [ed,List.all_cons]
  cases hb : inB (s.data.toList[i].toNat : Int) with
  | true =>
   rw [Bool.true_and]
   refine Ev.step (f:=fun k => lines_Token.l0 k s (s.size : Int) ((i + 1 : Nat) : Int)) (fun k => ?_) key
   simp only [lines_Token.l0]
   rw [if_pos (by omega),if_pos (by omega),if_pos (by omega),eb,in_f,hb,Option.bind_some,if_pos rfl,wrap_1 h2 hn]
  | false =>
   rw [Bool.false_and,Bool.false_and]
   refine Ev.step (f:=fun _ => some false) (fun k => ?_) (Ev.now _)
   simp only [lines_Token.l0]
   rw [if_pos (by omega),if_pos (by omega),if_pos (by omega),eb,in_f,hb,Option.bind_some,if_neg (by simp)]
theorem token (s : ByteArray) (hn : s.size ≤ 140737488355328) : Ev (fun k => lines_Token.f k s) (tokenB s):=by
 have h:=token_l s hn s.size 0 (by omega)
 rw [List.drop_zero] at h
 exact h

/-! ### patches -/
def listedB (x : S24) : Bool:=decide (0 < x.f5.length + x.f6.length) || x.f4 != 0
def kindB (x : S24) : Bool :=
 if x.f0 = 8 then tokenB x.f3 && tokenB x.f2 && (x.f3.toList != x.f2.toList)
 else if x.f0 = 9 then (x.f3.toList != x.f2.toList)
 else if x.f3.toList = ([] : List UInt8) then
  if x.f0 = 10 then rightB x.f2 && apartB x.f1 x.f2
  else if x.f0 = 7 then decide (x.f2.toList = ([] : List UInt8)) && decide (x.f4 ≥ 0) && decide (x.f4 ≤ 1073741824) && linesB x.f5 && linesB x.f6 && decide (0 < x.f5.length + x.f6.length)
  else decide (x.f2.toList = ([] : List UInt8)) && decide (x.f0 ≥ 1) && decide (x.f0 ≤ 6)
 else false
def primB (x : S24) : Bool:=rightB x.f1 && !(listedB x && x.f0 != 7) && kindB x
theorem path_f (s : ByteArray) (h : s.size ≤ 140737488355328) : path_Right.f s = some (rightB s):=if_pos h
theorem kind_j (x : S24) (hx : Okp x) : Ev (fun k => prim_Right.j1 k false x.f0 x.f1 x.f2 x.f3 x.f4 x.f5 x.f6) (kindB x):=by
 have p2:=path_f x.f2 hx.s2
 have t3:=token x.f3 hx.s3
 have t2:=token x.f2 hx.s2
 have k5:=hx.ok.1
 have k6:=hx.ok.2
 unfold kindB
 by_cases h8 : x.f0 = 8
 ·rw [if_pos h8]
  refine Ev.step (f:=fun k => (lines_Token.f k x.f3).bind fun t => if t = true then (lines_Token.f k x.f2).bind fun u => if u = true then some (x.f3.toList != x.f2.toList) else some false else some false) (fun k => ?_) ?_
  ·simp only [prim_Right.j1,if_pos h8,Bool.false_eq_true,if_false]
  ·cases h3 : tokenB x.f3 with
   | false =>
    rw [h3] at t3
    exact Ev.bind t3 (Ev.now _)
   | true =>
    rw [h3] at t3
    refine Ev.bind t3 ?_
    cases h2 : tokenB x.f2 with
    | false =>
     rw [h2] at t2
     exact Ev.bind t2 (Ev.now _)
    | true =>
     rw [h2] at t2
     exact Ev.bind t2 (Ev.now _)
 ·rw [if_neg h8]
  refine Ev.step (f:=fun _ => some _) (fun k => ?_) (Ev.now _)
  simp only [prim_Right.j1,if_neg h8,Bool.false_eq_true,if_false]
  by_cases h9 : x.f0 = 9
  ·rw [if_pos h9,if_pos h9]
  ·rw [if_neg h9,if_neg h9]
   by_cases h3 : x.f3.toList = ([] : List UInt8)
   ·rw [if_pos h3,if_pos h3]
    by_cases h10 : x.f0 = 10
    ·rw [if_pos h10,if_pos h10,p2,Option.bind_some,apart_f]
     cases rightB x.f2 <;> rfl
    ·rw [if_neg h10,if_neg h10]
     by_cases h7 : x.f0 = 7
     ·rw [if_pos h7,if_pos h7,wrap_id (by omega) (by omega)]
      have e : decide ((x.f5.length : Int) + (x.f6.length : Int) > 0) = decide (0 < x.f5.length + x.f6.length):=decide_eq_decide.2 (by omega)
      rw [e]
      by_cases h2 : x.f2.toList = ([] : List UInt8) <;> by_cases ha : x.f4 ≥ 0 <;> by_cases hb : x.f4 ≤ 1073741824 <;> cases h5 : linesB x.f5 <;> cases h6 : linesB x.f6 <;> simp [h2,ha,hb,h5,h6,lines_Right.f]
     ·rw [if_neg h7,if_neg h7]
      by_cases h2 : x.f2.toList = ([] : List UInt8) <;> by_cases ha : x.f0 ≥ 1 <;> simp [h2,ha]
   ·rw [if_neg h3,if_neg h3]
theorem prim_right (x : S24) (hx : Okp x) : Ev (fun k => prim_Right.f k x.f0 x.f1 x.f2 x.f3 x.f4 x.f5 x.f6) (primB x):=by
 have p1:=path_f x.f1 hx.s1
 have kj:=kind_j x hx
 have k5:=hx.ok.1
 have k6:=hx.ok.2
 have yes : Ev (fun k => prim_Right.j1 k true x.f0 x.f1 x.f2 x.f3 x.f4 x.f5 x.f6) false:=Ev.step (f:=fun _ => some false) (fun k => by simp only [prim_Right.j1,if_true]) (Ev.now _)
 have j0 : ∀ b : Bool,Ev (fun k => prim_Right.j0 k b x.f0 x.f1 x.f2 x.f3 x.f4 x.f5 x.f6) (rightB x.f1 && !(b && x.f0 != 7) && kindB x):=by
  intro b
  cases hr : rightB x.f1 with
  | false =>
   refine Ev.step (f:=fun k => prim_Right.j1 k true x.f0 x.f1 x.f2 x.f3 x.f4 x.f5 x.f6) (fun k => ?_) yes
   simp only [prim_Right.j0,p1,hr,Option.bind_some,Bool.false_eq_true,if_false,Bool.not_false]
  | true =>
   cases b with
   | false =>
    refine Ev.step (f:=fun k => prim_Right.j1 k false x.f0 x.f1 x.f2 x.f3 x.f4 x.f5 x.f6) (fun k => ?_) (by simpa using kj)
    simp only [prim_Right.j0,p1,hr,Option.bind_some,Bool.false_eq_true,if_false,if_true]
   | true =>
    cases h7 : (x.f0 != 7) with
    | false =>
     refine Ev.step (f:=fun k => prim_Right.j1 k false x.f0 x.f1 x.f2 x.f3 x.f4 x.f5 x.f6) (fun k => ?_) (by simpa using kj)
     simp only [prim_Right.j0,p1,hr,h7,Option.bind_some,if_true]
    | true =>
     refine Ev.step (f:=fun k => prim_Right.j1 k true x.f0 x.f1 x.f2 x.f3 x.f4 x.f5 x.f6) (fun k => ?_) (by simpa using yes)
     simp only [prim_Right.j0,p1,hr,h7,Option.bind_some,if_true]
 unfold prim_Right.f primB listedB
 by_cases h : 0 < x.f5.length + x.f6.length
 ·have hw : wrap64 ((x.f5.length : Int) + (x.f6.length : Int)) > 0:=by rw [wrap_id (by omega) (by omega)]; omega
  have:=j0 true
  refine Ev.congr (fun k => if_pos hw) ?_
  rw [decide_eq_true h,Bool.true_or]
  exact this
 ·have hw : ¬ wrap64 ((x.f5.length : Int) + (x.f6.length : Int)) > 0:=by rw [wrap_id (by omega) (by omega)]; omega
  refine Ev.congr (fun k => if_neg hw) ?_
  rw [decide_eq_false h,Bool.false_or]
  exact j0 (x.f4 != 0)
end Go.Proofs.YthhohbidjhcjeaaDoor.Pl

namespace Go.Proofs.YthhohbidjhcjeaaDoor.Pl
open Go.RowKit Go.Proofs.YthhohbidjhcjeaaDoorW.PrintWords Go.Proofs.YthhohbidjhcjeaaDoorW.PrintMore Go.Proofs.YthhohbidjhcjeaaDoor.Q Go.Proofs.YthhohbidjhcjeaaDoor.H

theorem dlen (s : ByteArray) : s.data.toList.length = s.size:=by rw [Array.length_toList]; rfl
theorem bt_get (s : ByteArray) (i : Nat) (h : i < s.size) : bt s (i : Int) = ((s.data.toList[i]'(by rw [dlen]; exact h)).toNat : Int):=by
 have:=bt_at s (i : Int) (by rw [Int.toNat_natCast]; exact h)
 rw [← this]
 simp only [Int.toNat_natCast]
 rfl
theorem data_inj {a b : ByteArray} (h : a.data.toList = b.data.toList) : a = b:=by
 obtain ⟨⟨a⟩⟩:=a
 obtain ⟨⟨b⟩⟩:=b
 simpa using h
theorem toList_data (a : ByteArray) : a.toList = a.data.toList:=by rw [Go.ByteArray.toList_eq]
theorem extract_data (s : ByteArray) (i j : Nat) : (s.extract i j).data.toList = (s.data.toList.take j).drop i:=by
 simp only [ByteArray.data_extract,Array.toList_extract,List.extract_eq_take_drop]
 rw [List.take_drop]
 by_cases h : i ≤ j
 ·rw [show i + (j - i) = j by omega]
 ·rw [List.drop_eq_nil_of_le (by simp; omega),List.drop_eq_nil_of_le (by simp; omega)]

/-- .. and each line is no longer than it can be. -/
structure Okq (x : S24) : Prop where
 ok : Okp x
 l5 : ∀ s ∈ x.f5,s.size ≤ 140737488355328
 l6 : ∀ s ∈ x.f6,s.size ≤ 140737488355328
theorem primB_lo {x : S24} (h : primB x = true) : 1 ≤ x.f0 ∧ x.f0 ≤ 10:=by
 unfold primB kindB at h
 simp only [Bool.and_eq_true] at h
 obtain ⟨_,hk⟩:=h
 by_cases h8 : x.f0 = 8
 ·omega
 ·rw [if_neg h8] at hk
  by_cases h9 : x.f0 = 9
  ·omega
  ·rw [if_neg h9] at hk
   by_cases h3 : x.f3.toList = ([] : List UInt8)
   ·rw [if_pos h3] at hk
    by_cases h10 : x.f0 = 10
    ·omega
    ·rw [if_neg h10] at hk
     by_cases h7 : x.f0 = 7
     ·omega
     ·rw [if_neg h7] at hk
      simp only [Bool.and_eq_true,decide_eq_true_eq] at hk
      omega
   ·rw [if_neg h3] at hk
    cases hk
end Go.Proofs.YthhohbidjhcjeaaDoor.Pl
