/- Plain laws: the reference's answers on paths, tokens, lines and patches are the program's. -/
import Derived.Test.YthhohbidjhcjeaaDoorTPp
import Derived.Test.YthhohbidjhcjeaaDoorTQx8
import Derived.Laws.RangeAny
namespace Go.Proofs.YthhohbidjhcjeaaDoor.Pl
open Go.RowKit Go.Proofs.YthhohbidjhcjeaaDoorW.PrintWords Go.Proofs.YthhohbidjhcjeaaDoorW.PrintMore Go.Proofs.YthhohbidjhcjeaaDoor.Q Go.Proofs.YthhohbidjhcjeaaDoor.H

/-! ### within -/
theorem refWithin_f (a b : ByteArray) : counterpaneref04_Within.f a b = some (withinB a b):=by
 unfold counterpaneref04_Within.f withinB
 by_cases he : a.toList = b.toList
 ·obtain rfl:=toList_inj he
  have e1 : (a.extract 0 a.size) = a:=by simp
  have e2 : (a.extract a.size a.size).toList = []:=by rw [toList_data,extract_data]; simp
  rw [if_pos rfl,if_pos ⟨by rw [e1],Nat.le_refl _⟩,if_pos e2]
 ·rw [if_neg he]
  by_cases hs : b.size < a.size
  ·rw [if_pos (by omega),if_pos (by omega),if_pos (by omega),Int.toNat_natCast]
   by_cases hp : (a.extract 0 b.size).toList = b.toList
   ·have hr : (a.extract b.size a.size).size = a.size - b.size:=by simp
    have hn : ¬ (a.extract b.size a.size).toList = []:=fun e => by
     have:=size_toList (a.extract b.size a.size)
     rw [e] at this
     simp at this
     omega
    rw [if_pos hp,if_pos (by omega),if_pos ⟨hp,by omega⟩,if_neg hn]
    have hb : bt (a.extract b.size a.size) 0 = bt a (b.size : Int):=by
     have h0:=bt_get (a.extract b.size a.size) 0 (by omega)
     rw [show ((0 : Nat) : Int) = 0 from rfl] at h0
     rw [h0,bt_get a b.size hs]
     congr 2
     rw [← Option.some_inj,← List.getElem?_eq_getElem,← List.getElem?_eq_getElem,extract_data,List.getElem?_drop,List.getElem?_take]
     simp [hs]
    rw [hb]
   ·rw [if_neg hp,if_neg (fun h => hp h.1)]
  ·rw [if_neg (by omega),if_neg ?_]
   rintro ⟨h1,h2⟩
   have : b.size = a.size:=by omega
   rw [this] at h1
   simp at h1
   exact he h1
theorem refApart_f (a b : ByteArray) : counterpaneref04_Apart.f a b = some (apartB a b):=by
 unfold counterpaneref04_Apart.f apartB
 rw [refWithin_f,refWithin_f]
 cases withinB a b <;> rfl

/-! ### parts -/
def letB (c : Nat) : Bool:=c == 46 || c == 95 || c == 45 || (decide (97 ≤ c) && decide (c ≤ 122)) || (decide (48 ≤ c) && decide (c ≤ 57))
theorem letB_eq : ∀ c,c < 128 → isLetter c = letB c:=by decide +kernel
theorem letB_high (c : Nat) (h : 128 ≤ c) : letB c = false:=by simp [letB]; omega
theorem strange_from (s : ByteArray) : ∀ (f pos : Nat),s.size ≤ pos + f → (0 ≤ Lib.idxFuncFrom (fun r => !isLetter r) true s f pos ↔ ∃ b ∈ s.data.toList.drop pos,letB b.toNat = false)
 | 0,pos,h => by
  rw [List.drop_eq_nil_of_le (by rw [dlen]; omega)]
  simp [Lib.idxFuncFrom]
 | f + 1,pos,h => by
  by_cases hp : pos < s.size
  ·have h1 : pos < s.data.toList.length:=by rw [dlen]; exact hp
   rw [List.drop_eq_getElem_cons h1]
   have hg : (s[pos]'hp) = s.data.toList[pos]:=rfl
   by_cases ha : (s.data.toList[pos]).toNat < 128
   ·have hd:=decode_ascii s pos hp (by rw [hg]; exact ha)
    rw [hg] at hd
    simp only [Lib.idxFuncFrom,if_pos hp,hd,letB_eq _ ha]
    cases hl : letB (s.data.toList[pos]).toNat with
    | true =>
     simp only [Bool.not_true,Bool.false_eq_true,if_false]
     rw [strange_from s f (pos + 1) (by omega)]
     exact ⟨fun ⟨b,hb,h⟩ => ⟨b,List.mem_cons_of_mem _ hb,h⟩,fun ⟨b,hb,h⟩ => by
      rcases List.mem_cons.1 hb with rfl | hb
      ·rw [hl] at h
       cases h
      ·exact ⟨b,hb,h⟩⟩
    | false =>
     simp only [Bool.not_false,if_true]
     exact ⟨fun _ => ⟨_,List.mem_cons_self,hl⟩,fun _ => by omega⟩
   ·obtain ⟨h2,_⟩:=decode_high s pos hp (by rw [hg]; omega)
    have hl : isLetter (Utf8.decode s pos).1 = false:=by
     have : ¬ (Utf8.decode s pos).1 < 128:=by omega
     simp [isLetter,this]
    simp only [Lib.idxFuncFrom,if_pos hp,hl,Bool.not_false,if_true]
    exact ⟨fun _ => ⟨_,List.mem_cons_self,letB_high _ (Nat.le_of_not_lt ha)⟩,fun _ => by omega⟩
  ·rw [Lib.idxFuncFrom_end _ _ _ _ _ hp,List.drop_eq_nil_of_le (by rw [dlen]; omega)]
   simp
theorem strange_eq (s : ByteArray) : strangeB s = !(s.data.toList.all (fun b => letB b.toNat)):=by
 have h:=strange_from s s.size 0 (by omega)
 rw [List.drop_zero] at h
 rw [strangeB,Lib.idxFunc]
 cases ha : s.data.toList.all (fun b => letB b.toNat) with
 | true =>
  rw [List.all_eq_true] at ha
  refine decide_eq_false (fun hh => ?_)
  obtain ⟨b,hb,hl⟩:=h.1 hh
  rw [ha b hb] at hl
  cases hl
 | false =>
  obtain ⟨b,hb,hl⟩:=List.all_eq_false.1 ha
  exact decide_eq_true (h.2 ⟨b,hb,by simpa using hl⟩)
theorem refPart_l (s : ByteArray) (hn : s.size ≤ 140737488355328) : ∀ (d i : Nat),i + d = s.size → Ev (fun k => counterpaneref04_part.l0 k s (i : Int)) ((s.data.toList.drop i).all (fun b => letB b.toNat)):=by
 intro d
 induction d with
 | zero =>
  intro i hi
  rw [List.drop_eq_nil_of_le (by rw [dlen]; omega)]
  refine Ev.step (f:=fun _ => some true) (fun k => ?_) (Ev.now _)
  simp only [counterpaneref04_part.l0]
  rw [if_neg (by omega)]
 | succ d ih =>
  intro i hi
  have h2 : i < s.size:=by omega
  have h1 : i < s.data.toList.length:=by rw [dlen]; exact h2
  rw [List.drop_eq_getElem_cons h1,List.all_cons]
  obtain ⟨c,hc⟩ : ∃ c,(s.data.toList[i]).toNat = c:=⟨_,rfl⟩
  have hb : bt s (i : Int) = (c : Int):=by rw [bt_get s i h2,hc]
  have key:=ih (i + 1) (by omega)
  rw [hc]
  cases hl : letB c with
  | true =>
   rw [Bool.true_and]
   refine Ev.step (f:=fun k => counterpaneref04_part.l0 k s ((i + 1 : Nat) : Int)) (fun k => ?_) key
   simp only [counterpaneref04_part.l0]
   rw [if_pos (by omega),if_pos (by omega),hb,wrap_1 h2 hn]
   simp only [letB,Bool.or_eq_true,beq_iff_eq,Bool.and_eq_true,decide_eq_true_eq] at hl
   repeat' split
   all_goals first | rfl | omega
  | false =>
   rw [Bool.false_and]
   refine Ev.step (f:=fun _ => some false) (fun k => ?_) (Ev.now _)
   simp only [counterpaneref04_part.l0]
   rw [if_pos (by omega),if_pos (by omega),hb]
   simp only [letB,Bool.or_eq_false_iff,beq_eq_false_iff_ne,Bool.and_eq_false_iff,decide_eq_false_iff_not,ne_eq] at hl
   repeat' split
   all_goals first | rfl | omega
theorem refPart (s : ByteArray) (hn : s.size ≤ 140737488355328) : Ev (fun k => counterpaneref04_part.f k s) (partB s):=by
 have yes : Ev (fun k => counterpaneref04_part.j0 k s true) false:=Ev.step (f:=fun _ => some false) (fun k => by simp only [counterpaneref04_part.j0,if_true]) (Ev.now _)
 have hl : s.toList.length = s.size:=size_toList s
 unfold partB
 by_cases h0 : s.toList = []
 ·rw [if_pos h0]
  refine Ev.congr (fun k => if_pos ?_) yes
  rw [h0] at hl
  simp at hl
  omega
 ·have h1 : s.toList.length ≠ 0:=fun e => h0 (List.length_eq_zero_iff.1 e)
  rw [if_neg h0]
  refine Ev.congr (fun k => if_neg (by omega)) ?_
  by_cases h16 : s.size ≤ 16
  ·rw [if_pos h16]
   refine Ev.congr (fun k => if_neg (by omega)) ?_
   by_cases hd : s.toList = [46]
   ·rw [if_pos hd]
    exact Ev.congr (fun k => if_pos hd) yes
   ·rw [if_neg hd]
    refine Ev.congr (fun k => if_neg hd) ?_
    by_cases hdd : s.toList = [46,46]
    ·rw [if_pos hdd]
     refine Ev.congr (fun k => ?_) yes
     rw [hdd]
     rfl
    ·rw [if_neg hdd,strange_eq,Bool.not_not]
     have e : (s.toList == ([46,46] : List UInt8)) = false:=by simpa using hdd
     have:=refPart_l s hn s.size 0 (by omega)
     rw [List.drop_zero] at this
     refine Ev.step (f:=fun k => counterpaneref04_part.l0 k s ((0 : Nat) : Int)) (fun k => ?_) this
     simp only [counterpaneref04_part.j0,e,Bool.false_eq_true,if_false]
     rfl
  ·rw [if_neg h16]
   exact Ev.congr (fun k => if_pos (by omega)) yes

/-! ### paths -/
theorem pieces_at (c : UInt8) : ∀ (l : List UInt8) (i : Nat),(∀ j,j < i → l[j]? ≠ some c) → l[i]? = some c → pieces c l = l.take i :: pieces c (l.drop (i + 1))
 | [],i,_,h => by simp at h
 | b :: l,0,_,h => by
  obtain rfl : b = c:=by simpa using h
  simp [pieces]
 | b :: l,i + 1,hn,h => by
  have hb : ¬ b = c:=fun e => hn 0 (by omega) (by simp [e])
  have ih:=pieces_at c l i (fun j hj => by simpa using hn (j + 1) (by omega)) (by simpa using h)
  rw [pieces,if_neg hb,ih]
  rfl
theorem pieces_end (c : UInt8) : ∀ (l : List UInt8),(∀ j : Nat,l[j]? ≠ some c) → pieces c l = [l]
 | [],_ => rfl
 | b :: l,hn => by
  have hb : ¬ b = c:=fun e => hn 0 (by simp [e])
  rw [pieces,if_neg hb,pieces_end c l (fun j => by simpa using hn (j + 1))]
/-- What the reference answers on a rest of a path behind n parts. -/
def restB (n : Nat) (l : List UInt8) : Bool:=(pieces 47 l).all (fun y => partB ⟨y.toArray⟩) && decide (n + (pieces 47 l).length ≤ 8)
theorem restB_cons (n : Nat) (l : List UInt8) (y : List UInt8) (r : List UInt8) (h : pieces 47 l = y :: pieces 47 r) : restB n l = (partB ⟨y.toArray⟩ && restB (n + 1) r):=by
 rw [restB,h,List.all_cons,List.length_cons,restB,Bool.and_assoc]
 congr 2
 exact decide_eq_decide.2 (by omega)
theorem refRight_l (s : ByteArray) (hn : s.size ≤ 140737488355328) : ∀ (d i fr n : Nat),i + d = s.size → fr ≤ i → n ≤ i → (∀ j,fr ≤ j → j < i → s.data.toList[j]? ≠ some 47) →
  Ev (fun k => counterpaneref04_Right.l0 k s (n : Int) (fr : Int) (i : Int)) (restB n (s.data.toList.drop fr)):=by
 have hdl:=dlen s
 have hf : ∀ y : List UInt8,y.length ≤ s.size → (⟨y.toArray⟩ : ByteArray).size ≤ 140737488355328:=fun y hy => by
  have : (⟨y.toArray⟩ : ByteArray).size = y.length:=by simp [ByteArray.size]
  omega
 have piece : ∀ fr i : Nat,s.extract fr i = ⟨((s.data.toList.drop fr).take (i - fr)).toArray⟩:=fun fr i => by
  refine data_inj ?_
  rw [extract_data]
  simp only
  rw [List.take_drop]
  by_cases h : fr ≤ i
  ·rw [show fr + (i - fr) = i by omega]
  ·rw [List.drop_eq_nil_of_le (by simp; omega),List.drop_eq_nil_of_le (by simp; omega)]
 intro d
 induction d with
 | zero =>
  intro i fr n hi hfr hni hno
  obtain rfl : i = s.size:=by omega
  have hp : pieces 47 (s.data.toList.drop fr) = [s.data.toList.drop fr]:=pieces_end 47 _ (fun j => by
   rw [List.getElem?_drop]
   by_cases hj : fr + j < s.size
   ·exact hno _ (by omega) hj
   ·rw [List.getElem?_eq_none (by omega)]; simp)
  have he : s.extract fr s.size = ⟨(s.data.toList.drop fr).toArray⟩:=by
   rw [piece,List.take_of_length_le (by simp)]
  have hP:=refPart ⟨(s.data.toList.drop fr).toArray⟩ (hf _ (by simp))
  have last : ∀ m : Nat,Ev (fun k => counterpaneref04_Right.l0 k s (m : Int) ((s.size + 1 : Nat) : Int) ((s.size + 1 : Nat) : Int)) (decide (m ≤ 8)):=fun m => by
   refine Ev.step (f:=fun _ => some (decide (m ≤ 8))) (fun k => ?_) (Ev.now _)
   simp only [counterpaneref04_Right.l0]
   rw [if_neg (by omega)]
   exact congrArg some (decide_eq_decide.2 (by omega))
  have hr : restB n (s.data.toList.drop fr) = (partB ⟨(s.data.toList.drop fr).toArray⟩ && decide (n + 1 ≤ 8)):=by
   rw [restB,hp]
   simp
  rw [hr]
  refine Ev.step (f:=fun k => counterpaneref04_Right.j1 k s (n : Int) (fr : Int) (s.size : Int) false) (fun k => ?_) ?_
  ·simp only [counterpaneref04_Right.l0]
   rw [if_pos (by omega),if_neg (by omega)]
  ·refine Ev.step (f:=fun k => (counterpaneref04_part.f k ⟨(s.data.toList.drop fr).toArray⟩).bind fun t => if t = true then counterpaneref04_Right.l0 k s ((n + 1 : Nat) : Int) ((s.size + 1 : Nat) : Int) ((s.size + 1 : Nat) : Int) else some false) (fun k => ?_) ?_
   ·simp only [counterpaneref04_Right.j1,Bool.false_eq_true,if_false]
    rw [if_pos (by omega),if_pos (by omega),if_pos (by omega),Int.toNat_natCast,Int.toNat_natCast,he]
    have w1 : wrap64 ((n : Int) + 1) = ((n + 1 : Nat) : Int):=by rw [wrap_id (by omega) (by omega)]; omega
    have w2 : wrap64 ((s.size : Int) + 1) = ((s.size + 1 : Nat) : Int):=by rw [wrap_id (by omega) (by omega)]; omega
    rw [w1,w2]
   ·cases hb : partB ⟨(s.data.toList.drop fr).toArray⟩ with
    | true =>
     rw [hb] at hP
     rw [Bool.true_and]
     exact Ev.bind (f:=fun k t => if t = true then counterpaneref04_Right.l0 k s ((n + 1 : Nat) : Int) ((s.size + 1 : Nat) : Int) ((s.size + 1 : Nat) : Int) else some false) hP (Ev.congr (fun k => if_pos rfl) (last (n + 1)))
    | false =>
     rw [hb] at hP
     rw [Bool.false_and]
     exact Ev.bind (f:=fun k t => if t = true then counterpaneref04_Right.l0 k s ((n + 1 : Nat) : Int) ((s.size + 1 : Nat) : Int) ((s.size + 1 : Nat) : Int) else some false) hP (Ev.congr (fun k => if_neg (by simp)) (Ev.now _))
 | succ d ih =>
  intro i fr n hi hfr hni hno
  have h2 : i < s.size:=by omega
  have h1 : i < s.data.toList.length:=by omega
  have hb:=bt_get s i h2
  by_cases hc : s.data.toList[i] = 47
  ·have hp : pieces 47 (s.data.toList.drop fr) = (s.data.toList.drop fr).take (i - fr) :: pieces 47 (s.data.toList.drop (i + 1)):=by
    have:=pieces_at 47 (s.data.toList.drop fr) (i - fr) (fun j hj => by rw [List.getElem?_drop]; exact hno _ (by omega) (by omega)) (by rw [List.getElem?_drop,show fr + (i - fr) = i by omega,List.getElem?_eq_getElem h1,hc])
    rw [this,List.drop_drop,show fr + (i - fr + 1) = i + 1 by omega]
   rw [restB_cons _ _ _ _ hp]
   have he:=piece fr i
   have hP:=refPart ⟨((s.data.toList.drop fr).take (i - fr)).toArray⟩ (hf _ (by simp; omega))
   have key:=ih (i + 1) (i + 1) (n + 1) (by omega) (Nat.le_refl _) (by omega) (fun j h3 h4 => by omega)
   refine Ev.step (f:=fun k => counterpaneref04_Right.j1 k s (n : Int) (fr : Int) (i : Int) false) (fun k => ?_) ?_
   ·simp only [counterpaneref04_Right.l0]
    rw [if_pos (by omega),if_pos (by omega),if_pos (by omega),hb,hc]
    rfl
   ·refine Ev.step (f:=fun k => (counterpaneref04_part.f k ⟨((s.data.toList.drop fr).take (i - fr)).toArray⟩).bind fun t => if t = true then counterpaneref04_Right.l0 k s ((n + 1 : Nat) : Int) ((i + 1 : Nat) : Int) ((i + 1 : Nat) : Int) else some false) (fun k => ?_) ?_
    ·simp only [counterpaneref04_Right.j1,Bool.false_eq_true,if_false]
     rw [if_pos (by omega),if_pos (by omega),if_pos (by omega),Int.toNat_natCast,Int.toNat_natCast,he,wrap_1 h2 hn]
     have w1 : wrap64 ((n : Int) + 1) = ((n + 1 : Nat) : Int):=by rw [wrap_id (by omega) (by omega)]; omega
     rw [w1]
    ·cases hb : partB ⟨((s.data.toList.drop fr).take (i - fr)).toArray⟩ with
     | true =>
      rw [hb] at hP
      rw [Bool.true_and]
      exact Ev.bind (f:=fun k t => if t = true then counterpaneref04_Right.l0 k s ((n + 1 : Nat) : Int) ((i + 1 : Nat) : Int) ((i + 1 : Nat) : Int) else some false) hP (Ev.congr (fun k => if_pos rfl) key)
     | false =>
      rw [hb] at hP
      rw [Bool.false_and]
      exact Ev.bind (f:=fun k t => if t = true then counterpaneref04_Right.l0 k s ((n + 1 : Nat) : Int) ((i + 1 : Nat) : Int) ((i + 1 : Nat) : Int) else some false) hP (Ev.congr (fun k => if_neg (by simp)) (Ev.now _))
  ·have key:=ih (i + 1) fr n (by omega) (by omega) (by omega) (fun j h3 h4 => by
    by_cases hj : j = i
    ·subst hj
     rw [List.getElem?_eq_getElem h1]
     simpa using hc
    ·exact hno j h3 (by omega))
   refine Ev.step (f:=fun k => counterpaneref04_Right.j1 k s (n : Int) (fr : Int) (i : Int) true) (fun k => ?_) (Ev.step (f:=fun k => counterpaneref04_Right.l0 k s (n : Int) (fr : Int) ((i + 1 : Nat) : Int)) (fun k => ?_) key)
   ·simp only [counterpaneref04_Right.l0]
    rw [if_pos (by omega),if_pos (by omega),if_pos (by omega),hb]
    have hne : (((s.data.toList[i]).toNat : Int) != 47) = true:=by
     rw [bne_iff_ne]
     intro e
     have h47 : (47 : UInt8).toNat = 47:=rfl
     exact hc (UInt8.toNat_inj.1 (by rw [h47]; omega))
    rw [hne]
   ·simp only [counterpaneref04_Right.j1,if_true]
    rw [wrap_1 h2 hn]
theorem refRight (s : ByteArray) (hn : s.size ≤ 140737488355328) : Ev (fun k => counterpaneref04_Right.f k s) (rightB s):=by
 have h:=refRight_l s hn s.size 0 0 0 (by omega) (Nat.le_refl _) (Nat.le_refl _) (fun j _ h => by omega)
 have e : restB 0 (s.data.toList.drop 0) = rightB s:=by
  rw [List.drop_zero,restB,rightB,Nat.zero_add]
 rw [e] at h
 exact h

/-! ### tokens -/
theorem refIn_all : ∀ c : Fin 256,counterpaneref05_in.f (c.val : Int) = lines_in.f (c.val : Int):=by decide +kernel
theorem refIn_f (c : Nat) (h : c < 256) : counterpaneref05_in.f (c : Int) = some (inB (c : Int)):=(refIn_all ⟨c,h⟩).trans (in_f _)
theorem refToken_l (s : ByteArray) (hn : s.size ≤ 140737488355328) : ∀ (d i : Nat),i + d = s.size → Ev (fun k => counterpaneref05_Token.l0 k s (i : Int)) ((s.data.toList.drop i).all (fun b => inB (b.toNat : Int)) && decide (0 < s.size)):=by
 have hsl:=dlen s
 intro d
 induction d with
 | zero =>
  intro i hi
  refine Ev.step (f:=fun _ => some (decide (0 < s.size))) (fun k => ?_) ?_
  ·simp only [counterpaneref05_Token.l0]
   rw [if_neg (by omega)]
   exact congrArg some (decide_eq_decide.2 (by omega))
  ·rw [List.drop_of_length_le (by omega)]
   simpa using Ev.now _
 | succ d ih =>
  intro i hi
  have h1 : i < s.data.toList.length:=by omega
  have h2 : i < s.size:=by omega
  have eb:=bt_get s i h2
  have key:=ih (i + 1) (by omega)
  rw [List.drop_eq_getElem_cons h1,List.all_cons]
  have hin:=refIn_f (s.data.toList[i]).toNat (UInt8.toNat_lt _)
  cases hb : inB (s.data.toList[i].toNat : Int) with
  | true =>
   rw [Bool.true_and]
   refine Ev.step (f:=fun k => counterpaneref05_Token.l0 k s ((i + 1 : Nat) : Int)) (fun k => ?_) key
   simp only [counterpaneref05_Token.l0]
   rw [if_pos (by omega),if_pos (by omega),eb,hin,hb,Option.bind_some,if_pos rfl,wrap_1 h2 hn]
  | false =>
   rw [Bool.false_and,Bool.false_and]
   refine Ev.step (f:=fun _ => some false) (fun k => ?_) (Ev.now _)
   simp only [counterpaneref05_Token.l0]
   rw [if_pos (by omega),if_pos (by omega),eb,hin,hb,Option.bind_some,if_neg (by simp)]
theorem refToken (s : ByteArray) (hn : s.size ≤ 140737488355328) : Ev (fun k => counterpaneref05_Token.f k s) (tokenB s):=by
 have h:=refToken_l s hn s.size 0 (by omega)
 rw [List.drop_zero] at h
 have e : (s.toList != ([] : List UInt8)) = decide (0 < s.size):=by
  have hl:=size_toList s
  by_cases hz : s.toList = []
  ·rw [hz] at hl ⊢
   simp at hl
   have : ¬ 0 < s.size:=by omega
   rw [decide_eq_false this]
   rfl
  ·have h1 : s.toList.length ≠ 0:=fun e => hz (List.length_eq_zero_iff.1 e)
   rw [decide_eq_true (by omega)]
   simpa using hz
 rw [tokenB,e]
 exact h

/-! ### lines -/
theorem nl_of (s : ByteArray) : hasNL s = s.data.toList.any (fun b => b == 10):=by
 have key : ∀ l : List UInt8,decide (0 ≤ Lib.indexByte l 10) = l.any (fun b => b == 10):=by
  intro l
  induction l with
  | nil => rfl
  | cons b l ih =>
   rw [List.any_cons,← ih]
   have hg:=Lib.indexByte_ge l 10
   cases hb : (b == 10) with
   | true => simp [Lib.indexByte,hb]
   | false =>
    simp only [Lib.indexByte,hb,Bool.false_eq_true,if_false,Bool.false_or]
    by_cases e : Lib.indexByte l 10 = -1
    ·simp [e]
    ·have e' : (Lib.indexByte l 10 == -1) = false:=by simpa using e
     simp only [e',Bool.false_eq_true,if_false]
     exact decide_eq_decide.2 (by omega)
 exact key _
theorem refLines_in (l : List ByteArray) (hl : l.length ≤ 140737488355328) (i : Nat) (hi : i < l.length) (r : Bool) (hs : l[i].size ≤ 140737488355328)
  (hr : Ev (fun k => counterpaneref05_Right.l0 k l ((i + 1 : Nat) : Int)) r) : ∀ (d j : Nat),j + d = l[i].size → Ev (fun k => counterpaneref05_Right.l1 k l (i : Int) (j : Int)) (!((l[i].data.toList.drop j).any (fun b => b == 10)) && r):=by
 have hsl:=dlen l[i]
 have hrd:=rdOf_get ByteArray.empty l hi
 intro d
 induction d with
 | zero =>
  intro j hj
  refine Ev.step (f:=fun k => counterpaneref05_Right.l0 k l ((i + 1 : Nat) : Int)) (fun k => ?_) ?_
  ·simp only [counterpaneref05_Right.l1]
   rw [if_pos (by omega),if_pos (by omega),hrd,if_neg (by omega),wrap_1 hi hl]
  ·rw [List.drop_of_length_le (by omega)]
   simpa using hr
 | succ d ih =>
  intro j hj
  have h1 : j < l[i].data.toList.length:=by omega
  have h2 : j < l[i].size:=by omega
  have eb:=bt_get l[i] j h2
  have key:=ih (j + 1) (by omega)
  rw [List.drop_eq_getElem_cons h1,List.any_cons]
  obtain ⟨c,hc⟩ : ∃ c,l[i].data.toList[j] = c:=⟨_,rfl⟩
  rw [hc] at eb ⊢
  have h10 : (10 : UInt8).toNat = 10:=rfl
  by_cases hb : c = 10
  ·have e : (c == 10) = true:=by simpa using hb
   rw [e,Bool.true_or,Bool.not_true,Bool.false_and]
   refine Ev.step (f:=fun _ => some false) (fun k => ?_) (Ev.now _)
   simp only [counterpaneref05_Right.l1]
   rw [if_pos (by omega),if_pos (by omega),hrd,if_pos (by omega),if_pos (by omega),eb,hb]
   exact if_pos rfl
  ·have e : (c == 10) = false:=by simpa using hb
   rw [e,Bool.false_or]
   refine Ev.step (f:=fun k => counterpaneref05_Right.l1 k l (i : Int) ((j + 1 : Nat) : Int)) (fun k => ?_) key
   simp only [counterpaneref05_Right.l1]
   rw [if_pos (by omega),if_pos (by omega),hrd,if_pos (by omega),if_pos (by omega),eb,if_neg ?_,wrap_1 h2 hs]
   intro e2
   exact hb (UInt8.toNat_inj.1 (by rw [h10]; omega))
theorem refLines_l (l : List ByteArray) (hl : l.length ≤ 140737488355328) (hs : ∀ x ∈ l,x.size ≤ 140737488355328) : ∀ (d i : Nat),i + d = l.length → Ev (fun k => counterpaneref05_Right.l0 k l (i : Int)) (!((l.drop i).any hasNL)):=by
 intro d
 induction d with
 | zero =>
  intro i hi
  refine Ev.step (f:=fun _ => some true) (fun k => ?_) ?_
  ·simp only [counterpaneref05_Right.l0]
   rw [if_neg (by omega)]
  ·rw [List.drop_of_length_le (by omega)]
   exact Ev.now _
 | succ d ih =>
  intro i hi
  have h1 : i < l.length:=by omega
  have h:=refLines_in l hl i h1 _ (hs _ (List.getElem_mem h1)) (ih (i + 1) (by omega)) l[i].size 0 (by omega)
  rw [List.drop_zero,← nl_of,← Bool.not_or,← List.any_cons,← List.drop_eq_getElem_cons h1] at h
  refine Ev.step (f:=fun k => counterpaneref05_Right.l1 k l (i : Int) ((0 : Nat) : Int)) (fun k => ?_) h
  simp only [counterpaneref05_Right.l0]
  rw [if_pos (by omega)]
  rfl
theorem refLinesRight (l : List ByteArray) (hl : l.length ≤ 140737488355328) (hs : ∀ x ∈ l,x.size ≤ 140737488355328) : Ev (fun k => counterpaneref05_Right.f k l) (linesB l):=by
 have h:=refLines_l l hl hs l.length 0 (by omega)
 rw [List.drop_zero] at h
 exact h

/-! ### patches -/
def listsB (x : S24) : Bool:=decide (x.f5.length = 0) && decide (x.f6.length = 0) && x.f4 == 0
theorem lists_not (x : S24) : listedB x = !listsB x:=by
 unfold listedB listsB
 cases hf : (x.f4 == 0) with
 | true =>
  have e : (x.f4 != 0) = false:=by simp [bne,hf]
  rw [e,Bool.or_false,Bool.and_true]
  by_cases h5 : x.f5.length = 0 <;> by_cases h6 : x.f6.length = 0 <;> simp [h5,h6] <;> omega
 | false =>
  have e : (x.f4 != 0) = true:=by simp [bne,hf]
  rw [e,Bool.or_true,Bool.and_false]
  rfl
theorem ev_two (a b : Nat → Option Bool) (x y z : Bool) (ha : Ev a x) (hb : Ev b y) : Ev (fun k => (a k).bind fun t => if t = true then (b k).bind (fun u => if u = true then some z else some false) else some false) (x && y && z):=by
 cases x with
 | false => exact Ev.bind (f:=fun k t => if t = true then (b k).bind (fun u => if u = true then some z else some false) else some false) ha (Ev.now _)
 | true =>
  refine Ev.bind (f:=fun k t => if t = true then (b k).bind (fun u => if u = true then some z else some false) else some false) ha ?_
  cases y with
  | false => exact Ev.bind (f:=fun k u => if u = true then some z else some false) hb (Ev.now _)
  | true => exact Ev.bind (f:=fun k u => if u = true then some z else some false) hb (Ev.congr (fun k => if_pos rfl) (by simpa using Ev.now z))
theorem ev_one (a : Nat → Option Bool) (x z : Bool) (ha : Ev a x) : Ev (fun k => (a k).bind fun t => if t = true then some z else some false) (x && z):=by
 cases x with
 | false => exact Ev.bind (f:=fun k t => if t = true then some z else some false) ha (Ev.now _)
 | true => exact Ev.bind (f:=fun k t => if t = true then some z else some false) ha (Ev.congr (fun k => if_pos rfl) (by simpa using Ev.now z))
theorem refKind (x : S24) (hx : Okq x) : Ev (fun k => counterpaneref08_Right.j1 k (listsB x) x.f0 (decide (1 ≤ x.f0) && decide (x.f0 ≤ 6)) x.f0 x.f1 x.f2 x.f3 x.f4 x.f5 x.f6) (!(listedB x && x.f0 != 7) && kindB x):=by
 have k5:=hx.ok.ok.1
 have k6:=hx.ok.ok.2
 have t3:=refToken x.f3 hx.ok.s3
 have t2:=refToken x.f2 hx.ok.s2
 have r2:=refRight x.f2 hx.ok.s2
 have n5:=refLinesRight x.f5 k5 hx.l5
 have n6:=refLinesRight x.f6 k6 hx.l6
 rw [lists_not]
 unfold kindB
 by_cases h16 : 1 ≤ x.f0 ∧ x.f0 ≤ 6
 ·obtain ⟨h1,h6⟩:=h16
  have e : (decide (1 ≤ x.f0) && decide (x.f0 ≤ 6)) = true:=by simp [h1,h6]
  have e7 : (x.f0 != 7) = true:=by rw [bne_iff_ne]; omega
  rw [e,e7,if_neg (by omega),if_neg (by omega)]
  refine Ev.step (f:=fun _ => some _) (fun k => ?_) (Ev.now _)
  simp only [counterpaneref08_Right.j1,if_true]
  cases listsB x with
  | false => rw [if_neg (by simp)]; rfl
  | true =>
   rw [if_pos rfl]
   by_cases h3 : x.f3.toList = ([] : List UInt8)
   ·rw [if_pos h3,if_pos h3,if_neg (by omega),if_neg (by omega),decide_eq_true (by omega : x.f0 ≥ 1),decide_eq_true h6]
    by_cases h2 : x.f2.toList = ([] : List UInt8) <;> simp [h2]
   ·rw [if_neg h3,if_neg h3]; rfl
 ·have e : (decide (1 ≤ x.f0) && decide (x.f0 ≤ 6)) = false:=by
   by_cases h1 : 1 ≤ x.f0
   ·have h6 : ¬ x.f0 ≤ 6:=fun h => h16 ⟨h1,h⟩
    simp [h6]
   ·simp [h1]
  rw [e]
  by_cases h8 : x.f0 = 8
  ·have e7 : (x.f0 != 7) = true:=by rw [bne_iff_ne]; omega
   rw [if_pos h8,e7]
   cases hl : listsB x with
   | false =>
    refine Ev.step (f:=fun _ => some false) (fun k => ?_) (Ev.now _)
    simp only [counterpaneref08_Right.j1,Bool.false_eq_true,if_false,if_pos h8]
    rw [if_neg (by omega)]
   | true =>
    refine Ev.step (f:=fun k => (counterpaneref05_Token.f k x.f3).bind fun t => if t = true then (counterpaneref05_Token.f k x.f2).bind (fun u => if u = true then some (x.f3.toList != x.f2.toList) else some false) else some false) (fun k => ?_) (by simpa using ev_two _ _ _ _ (x.f3.toList != x.f2.toList) t3 t2)
    simp only [counterpaneref08_Right.j1,Bool.false_eq_true,if_false,if_pos h8,if_true]
    rw [if_neg (by omega)]
  ·rw [if_neg h8]
   by_cases h9 : x.f0 = 9
   ·have e7 : (x.f0 != 7) = true:=by rw [bne_iff_ne]; omega
    rw [if_pos h9,e7]
    refine Ev.step (f:=fun _ => some _) (fun k => ?_) (Ev.now _)
    simp only [counterpaneref08_Right.j1,Bool.false_eq_true,if_false,if_neg h8,if_pos h9]
    rw [if_neg (by omega)]
    cases listsB x <;> rfl
   ·rw [if_neg h9]
    by_cases h10 : x.f0 = 10
    ·have e7 : (x.f0 != 7) = true:=by rw [bne_iff_ne]; omega
     rw [e7]
     by_cases h3 : x.f3.toList = ([] : List UInt8)
     ·rw [if_pos h3,if_pos h10]
      cases hl : listsB x with
      | false =>
       refine Ev.step (f:=fun _ => some false) (fun k => ?_) (Ev.now _)
       simp only [counterpaneref08_Right.j1,Bool.false_eq_true,if_false,if_neg h8,if_neg h9,if_pos h10]
       rw [if_neg (by omega)]
      | true =>
       refine Ev.step (f:=fun k => (counterpaneref04_Right.f k x.f2).bind fun t => if t = true then some (apartB x.f1 x.f2) else some false) (fun k => ?_) (by simpa using ev_one _ _ (apartB x.f1 x.f2) r2)
       simp only [counterpaneref08_Right.j1,Bool.false_eq_true,if_false,if_neg h8,if_neg h9,if_pos h10,if_true,if_pos h3,refApart_f,Option.bind_some]
       rw [if_neg (by omega)]
     ·rw [if_neg h3]
      refine Ev.step (f:=fun _ => some _) (fun k => ?_) (Ev.now _)
      simp only [counterpaneref08_Right.j1,Bool.false_eq_true,if_false,if_neg h8,if_neg h9,if_pos h10,if_neg h3]
      rw [if_neg (by omega)]
      cases listsB x <;> rfl
    ·by_cases h7 : x.f0 = 7
     ·have e7 : (x.f0 != 7) = false:=by simp [bne,h7]
      rw [e7,Bool.and_false,Bool.not_false,Bool.true_and]
      have ez : decide (wrap64 ((x.f5.length : Int) + (x.f6.length : Int)) > 0) = decide (0 < x.f5.length + x.f6.length):=by
       rw [wrap_id (by omega) (by omega)]
       exact decide_eq_decide.2 (by omega)
      by_cases h3 : x.f3.toList = ([] : List UInt8)
      ·rw [if_pos h3,if_neg h10,if_pos h7]
       by_cases h2 : x.f2.toList = ([] : List UInt8)
       ·by_cases ha : x.f4 ≥ 0
        ·by_cases hb : x.f4 ≤ 1073741824
         ·rw [decide_eq_true h2,decide_eq_true ha,decide_eq_true hb]
          refine Ev.step (f:=fun k => (counterpaneref05_Right.f k x.f5).bind fun t => if t = true then (counterpaneref05_Right.f k x.f6).bind (fun u => if u = true then some (decide (0 < x.f5.length + x.f6.length)) else some false) else some false) (fun k => ?_) (by simpa using ev_two _ _ _ _ (decide (0 < x.f5.length + x.f6.length)) n5 n6)
          simp only [counterpaneref08_Right.j1,Bool.false_eq_true,if_false,if_pos h7,if_pos h3,if_pos h2,if_pos ha,if_pos hb,ez]
         ·rw [decide_eq_false hb]
          refine Ev.step (f:=fun _ => some false) (fun k => ?_) (by simpa using Ev.now false)
          simp only [counterpaneref08_Right.j1,Bool.false_eq_true,if_false,if_pos h7,if_pos h3,if_pos h2,if_pos ha,if_neg hb]
        ·rw [decide_eq_false ha]
         refine Ev.step (f:=fun _ => some false) (fun k => ?_) (by simpa using Ev.now false)
         simp only [counterpaneref08_Right.j1,Bool.false_eq_true,if_false,if_pos h7,if_pos h3,if_pos h2,if_neg ha]
       ·rw [decide_eq_false h2]
        refine Ev.step (f:=fun _ => some false) (fun k => ?_) (by simpa using Ev.now false)
        simp only [counterpaneref08_Right.j1,Bool.false_eq_true,if_false,if_pos h7,if_pos h3,if_neg h2]
      ·rw [if_neg h3]
       refine Ev.step (f:=fun _ => some false) (fun k => ?_) (Ev.now _)
       simp only [counterpaneref08_Right.j1,Bool.false_eq_true,if_false,if_pos h7,if_neg h3]
     ·have ek : (if x.f3.toList = ([] : List UInt8) then (if x.f0 = 10 then rightB x.f2 && apartB x.f1 x.f2 else if x.f0 = 7 then decide (x.f2.toList = ([] : List UInt8)) && decide (x.f4 ≥ 0) && decide (x.f4 ≤ 1073741824) && linesB x.f5 && linesB x.f6 && decide (0 < x.f5.length + x.f6.length) else decide (x.f2.toList = ([] : List UInt8)) && decide (x.f0 ≥ 1) && decide (x.f0 ≤ 6)) else false) = false:=by
       by_cases h3 : x.f3.toList = ([] : List UInt8)
       ·rw [if_pos h3,if_neg h10,if_neg h7,Bool.and_assoc,show (decide (x.f0 ≥ 1) && decide (x.f0 ≤ 6)) = false from e,Bool.and_false]
       ·rw [if_neg h3]
      rw [ek,Bool.and_false]
      refine Ev.step (f:=fun _ => some false) (fun k => ?_) (Ev.now _)
      simp only [counterpaneref08_Right.j1,Bool.false_eq_true,if_false,if_neg h8,if_neg h9,if_neg h10,if_neg h7]
theorem refPrim (x : S24) (hx : Okq x) : Ev (fun k => counterpaneref08_Right.f k x.f0 x.f1 x.f2 x.f3 x.f4 x.f5 x.f6) (primB x):=by
 have hk:=refKind x hx
 have h1:=refRight x.f1 hx.ok.s1
 have j0 : Ev (fun k => counterpaneref08_Right.j0 k (listsB x) x.f0 x.f1 x.f2 x.f3 x.f4 x.f5 x.f6) (!(listedB x && x.f0 != 7) && kindB x):=by
  refine Ev.step (fun k => ?_) hk
  simp only [counterpaneref08_Right.j0]
  by_cases a1 : x.f0 = 1
  ·simp [a1]
  ·by_cases a2 : x.f0 = 2
   ·simp [a2]
   ·by_cases a3 : x.f0 = 3
    ·simp [a3]
    ·by_cases a4 : x.f0 = 4
     ·simp [a4]
     ·by_cases a5 : x.f0 = 5
      ·simp [a5]
      ·rw [if_neg a1,if_neg a2,if_neg a3,if_neg a4,if_neg a5]
       have : (x.f0 == 6) = (decide (1 ≤ x.f0) && decide (x.f0 ≤ 6)):=by
        by_cases a6 : x.f0 = 6
        ·simp [a6]
        ·have e1 : (x.f0 == 6) = false:=by simpa using a6
         rw [e1]
         by_cases b1 : 1 ≤ x.f0
         ·have : ¬ x.f0 ≤ 6:=by omega
          simp [this]
         ·simp [b1]
       rw [this]
 have hj : Ev (fun k => if (x.f5.length : Int) = 0 then (if (x.f6.length : Int) = 0 then (counterpaneref08_Right.j0 k (x.f4 == 0) x.f0 x.f1 x.f2 x.f3 x.f4 x.f5 x.f6) else (counterpaneref08_Right.j0 k false x.f0 x.f1 x.f2 x.f3 x.f4 x.f5 x.f6)) else (counterpaneref08_Right.j0 k false x.f0 x.f1 x.f2 x.f3 x.f4 x.f5 x.f6)) (!(listedB x && x.f0 != 7) && kindB x):=by
  refine Ev.congr (fun k => ?_) j0
  unfold listsB
  by_cases h5 : x.f5.length = 0
  ·rw [if_pos (by omega),decide_eq_true h5,Bool.true_and]
   by_cases h6 : x.f6.length = 0
   ·rw [if_pos (by omega),decide_eq_true h6,Bool.true_and]
   ·rw [if_neg (by omega),decide_eq_false h6,Bool.false_and]
  ·rw [if_neg (by omega),decide_eq_false h5,Bool.false_and,Bool.false_and]
 unfold counterpaneref08_Right.f primB
 rw [Bool.and_assoc]
 cases hr : rightB x.f1 with
 | false =>
  rw [hr] at h1
  exact Ev.bind (f:=fun k t => if t = true then (if (x.f5.length : Int) = 0 then (if (x.f6.length : Int) = 0 then (counterpaneref08_Right.j0 k (x.f4 == 0) x.f0 x.f1 x.f2 x.f3 x.f4 x.f5 x.f6) else (counterpaneref08_Right.j0 k false x.f0 x.f1 x.f2 x.f3 x.f4 x.f5 x.f6)) else (counterpaneref08_Right.j0 k false x.f0 x.f1 x.f2 x.f3 x.f4 x.f5 x.f6)) else some false) h1 (Ev.congr (fun k => if_neg (by simp)) (Ev.now _))
 | true =>
  rw [hr] at h1
  rw [Bool.true_and]
  exact Ev.bind (f:=fun k t => if t = true then (if (x.f5.length : Int) = 0 then (if (x.f6.length : Int) = 0 then (counterpaneref08_Right.j0 k (x.f4 == 0) x.f0 x.f1 x.f2 x.f3 x.f4 x.f5 x.f6) else (counterpaneref08_Right.j0 k false x.f0 x.f1 x.f2 x.f3 x.f4 x.f5 x.f6)) else (counterpaneref08_Right.j0 k false x.f0 x.f1 x.f2 x.f3 x.f4 x.f5 x.f6)) else some false) h1 (Ev.congr (fun k => if_pos rfl) hj)
end Go.Proofs.YthhohbidjhcjeaaDoor.Pl
