/- Plain laws: what two patches are the other way about. -/
import Derived.Test.YthhohbidjhcjeaaDoorTPp
import Derived.Test.YthhohbidjhcjeaaDoorTCs
namespace Go.Proofs.YthhohbidjhcjeaaDoor.Pl
open Go.RowKit Go.Proofs.YthhohbidjhcjeaaDoorW.PrintWords Go.Proofs.YthhohbidjhcjeaaDoorW.PrintMore Go.Proofs.YthhohbidjhcjeaaDoor.Q Go.Proofs.YthhohbidjhcjeaaDoor.H

/-! ### texts in texts -/
/-- What lies behind a place in a path. -/
def Below47 (r : List UInt8) : Prop:=r = [] ∨ ∃ t,r = 47 :: t
theorem within_iff (a b : ByteArray) : withinB a b = true ↔ ∃ r : List UInt8,a.data.toList = b.data.toList ++ r ∧ Below47 r:=by
 have ex1 : (a.extract 0 b.size).toList = a.data.toList.take b.size:=by rw [toList_data,extract_data,List.drop_zero]
 have ex2 : (a.extract b.size a.size).data.toList = a.data.toList.drop b.size:=by
  rw [extract_data,List.take_of_length_le (by rw [dlen]; exact Nat.le_refl _)]
 unfold withinB
 rw [ex1,toList_data b,toList_data (a.extract _ _),ex2]
 constructor
 ·intro h
  split at h
  ·rename_i h1
   refine ⟨a.data.toList.drop b.size,?_,?_⟩
   ·have:=List.take_append_drop b.size a.data.toList
    rw [h1.1] at this
    exact this.symm
   ·split at h
    ·rename_i h2
     exact .inl h2
    ·rename_i h2
     right
     obtain ⟨x,t,hxt⟩:=List.exists_cons_of_ne_nil h2
     have hpos : 0 < (a.extract b.size a.size).size:=by
      rw [← dlen,ex2,hxt]
      simp
     have hb:=bt_get (a.extract b.size a.size) 0 hpos
     have h3 : (a.extract b.size a.size).data.toList[0]? = some x:=by rw [ex2,hxt]; rfl
     have h4:=List.getElem?_eq_getElem (l:=(a.extract b.size a.size).data.toList) (i:=0) (by rw [dlen]; exact hpos)
     have h5:=Option.some.inj (h4.symm.trans h3)
     rw [h5] at hb
     rw [show ((0 : Nat) : Int) = 0 from rfl] at hb
     rw [hb] at h
     have h6 : (x.toNat : Int) = 47:=by simpa using h
     have h7 : x.toNat = (47 : UInt8).toNat:=by
      have : x.toNat = 47:=by omega
      rw [this]
      rfl
     exact ⟨t,by rw [hxt,UInt8.toNat_inj.1 h7]⟩
  ·cases h
 ·rintro ⟨r,hr,ho⟩
  have hl : b.data.toList.length = b.size:=dlen b
  have hsz : b.size ≤ a.size:=by
   have:=congrArg List.length hr
   rw [dlen,List.length_append,hl] at this
   omega
  have h1 : a.data.toList.take b.size = b.data.toList:=by rw [hr]; exact List.take_left' hl
  have h2 : a.data.toList.drop b.size = r:=by rw [hr]; exact List.drop_left' hl
  rw [if_pos ⟨h1,hsz⟩,h2]
  rcases ho with rfl | ⟨t,rfl⟩
  ·rw [if_pos rfl]
  ·rw [if_neg (by simp)]
   have hpos : 0 < (a.extract b.size a.size).size:=by
    rw [← dlen,ex2,h2]
    simp
   have hb:=bt_get (a.extract b.size a.size) 0 hpos
   have h3 : (a.extract b.size a.size).data.toList[0]? = some 47:=by rw [ex2,h2]; rfl
   have h4:=List.getElem?_eq_getElem (l:=(a.extract b.size a.size).data.toList) (i:=0) (by rw [dlen]; exact hpos)
   have h5:=Option.some.inj (h4.symm.trans h3)
   rw [h5] at hb
   rw [show ((0 : Nat) : Int) = 0 from rfl] at hb
   rw [hb]
   rfl
theorem within_refl (a : ByteArray) : withinB a a = true:=(within_iff a a).2 ⟨[],by simp,.inl rfl⟩
theorem apart_self (a : ByteArray) : apartB a a = false:=by unfold apartB; rw [within_refl]; rfl
/-- A path carried from one place to another one. -/
def mv (s fr dst : ByteArray) : ByteArray:=dst ++ s.extract fr.size s.size
theorem carry_yes {s fr dst : ByteArray} (h : withinB s fr = true) : carryS s fr dst = (mv s fr dst,true):=by unfold carryS mv; rw [if_pos h]
theorem carry_no {s fr dst : ByteArray} (h : withinB s fr = false) : carryS s fr dst = (s,!withinB s dst):=by unfold carryS; rw [if_neg (by rw [h]; simp)]
/-! ### the rules -/
/-- What the program's rule makes of two patches: the first and the second as they are then, and whether they may be. -/
def ruleS (p q : S24) : S24 × S24 × Bool :=
 if p.f0 = 10 then
  if q.f0 = 10 then (p,q,apartL (pathsS p) (pathsS q))
  else if 7 ≤ q.f0 then (p,{ q with f1:=(carryS q.f1 p.f2 p.f1).1 },(carryS q.f1 p.f2 p.f1).2)
  else (p,q,apartL (pathsS p) (pathsS q))
 else if 7 ≤ p.f0 then
  if q.f0 = 10 then ({ p with f1:=(carryS p.f1 q.f1 q.f2).1 },q,(carryS p.f1 q.f1 q.f2).2)
  else if 7 ≤ q.f0 then bothS p q
  else (p,q,p.f1.toList != q.f1.toList)
 else
  if q.f0 = 10 then (p,q,apartL (pathsS p) (pathsS q))
  else if 7 ≤ q.f0 then (p,q,p.f1.toList != q.f1.toList)
  else (p,q,apartL (pathsS p) (pathsS q))
/-- Two patches the other way about. -/
def comm (p q : S24) : S24 × S24 × Bool :=
 if primB p = true ∧ primB q = true ∧ (ruleS p q).2.2 = true ∧ primB (ruleS p q).1 = true ∧ primB (ruleS p q).2.1 = true then ((ruleS p q).2.1,(ruleS p q).1,true) else (z24,z24,false)
/-- What is known of two patches that were commuted. -/
structure Yes (p q a b : S24) : Prop where
 hp : primB p = true
 hq : primB q = true
 ha : primB a = true
 hb : primB b = true
 r : ruleS p q = (b,a,true)
theorem comm_of {p q a b : S24} (h : Yes p q a b) : comm p q = (a,b,true):=by
 unfold comm
 rw [h.r]
 exact if_pos ⟨h.hp,h.hq,rfl,h.hb,h.ha⟩
theorem comm_or (p q : S24) : comm p q = (z24,z24,false) ∨ ∃ a b,Yes p q a b ∧ comm p q = (a,b,true):=by
 by_cases h : primB p = true ∧ primB q = true ∧ (ruleS p q).2.2 = true ∧ primB (ruleS p q).1 = true ∧ primB (ruleS p q).2.1 = true
 ·refine .inr ⟨(ruleS p q).2.1,(ruleS p q).1,⟨h.1,h.2.1,h.2.2.2.2,h.2.2.2.1,?_⟩,if_pos h⟩
  have e : ruleS p q = ((ruleS p q).1,(ruleS p q).2.1,(ruleS p q).2.2):=rfl
  rw [h.2.2.1] at e
  exact e
 ·exact .inl (if_neg h)
/-- Kinds of right patches, and the places of their lines. -/
structure Rt (x : S24) : Prop where
 lo : 1 ≤ x.f0
 hi : x.f0 ≤ 10
 a0 : 0 ≤ x.f4
 a1 : x.f4 ≤ 1073741824
theorem rt_of {x : S24} (h : primB x = true) : Rt x:=by
 obtain ⟨h1,h2⟩:=primB_lo h
 have h4 : 0 ≤ x.f4 ∧ x.f4 ≤ 1073741824:=by
  by_cases h7 : x.f0 = 7
  ·unfold primB kindB at h
   rw [if_neg (by omega),if_neg (by omega)] at h
   by_cases h3 : x.f3.toList = ([] : List UInt8)
   ·rw [if_pos h3,if_neg (by omega),if_pos h7] at h
    simp only [Bool.and_eq_true,decide_eq_true_eq] at h
    omega
   ·rw [if_neg h3,Bool.and_false] at h
    cases h
  ·unfold primB listedB at h
   have hn : (x.f0 != 7) = true:=by simpa using h7
   rw [hn,Bool.and_true] at h
   simp only [Bool.and_eq_true,Bool.not_eq_true',Bool.or_eq_false_iff] at h
   have : x.f4 = 0:=by simpa using h.1.2.2
   omega
 exact ⟨h1,h2,h4.1,h4.2⟩
theorem prod3 {α β γ : Type} {a a' : α} {b b' : β} {c c' : γ} (h : (a,b,c) = (a',b',c')) : a = a' ∧ b = b' ∧ c = c':=by
 cases h
 exact ⟨rfl,rfl,rfl⟩
/-! ### what undoes them -/
/-! ### patches apart -/
theorem apartL_self (p : S24) : apartL (pathsS p) (pathsS p) = false:=by
 have m1 : p.f1 ∈ pathsS p:=by unfold pathsS; split <;> simp
 cases h : apartL (pathsS p) (pathsS p) with
 | false => rfl
 | true =>
  have all : ∀ x ∈ pathsS p,∀ y ∈ pathsS p,apartB x y = true:=by simpa only [apartL,List.all_eq_true] using h
  have:=all _ m1 _ m1
  rw [apart_self] at this
  cases this
theorem rule_own {p : S24} (hp : Rt p) (sp : Ok24 p) : (ruleS p p).2.2 = false:=by
 unfold ruleS
 by_cases cp : p.f0 = 10
 ·rw [if_pos cp,if_pos cp,apartL_self]
 ·rw [if_neg cp]
  by_cases dp : 7 ≤ p.f0
  ·rw [if_pos dp,if_neg cp,if_pos dp]
   obtain ⟨p0,p1,p2,p3,p4,p5,p6⟩:=p
   obtain ⟨-,-,h0,h1⟩:=hp
   obtain ⟨s5,s6⟩:=sp
   dsimp only at h0 h1 s5 s6
   unfold bothS
   dsimp only
   rw [if_pos rfl]
   have e1 : wrap64 (p4 - (p6.length : Int)) = p4 - (p6.length : Int):=wrap_id (by omega) (by omega)
   have e2 : wrap64 (p4 - (p5.length : Int)) = p4 - (p5.length : Int):=wrap_id (by omega) (by omega)
   rw [e1,e2]
   by_cases h7 : p0 = 7 ∧ p0 = 7
   ·rw [if_pos h7,if_neg (by omega),if_neg (by omega)]
   ·rw [if_neg h7]
  ·rw [if_neg dp,if_neg cp,if_neg dp,apartL_self]
theorem comm_own {p : S24} (sp : Ok24 p) : (comm p p).2.2 = false:=by
 rcases comm_or p p with h | ⟨a,b,h,-⟩
 ·rw [h]
 ·have:=rule_own (rt_of h.hp) sp
  rw [h.r] at this
  cases this

/-! ### the reference -/
def apR (m : S24) (s : ByteArray) : Bool:=if apartB m.f1 s = true then apartB m.f2 s else false
/-- What the reference's Commute makes of two right patches: the first and the second as they are then, and whether they may be. -/
def refStep (p q : S24) : S24 × S24 × Bool :=
 if p.f0 = 7 ∧ q.f0 = 7 ∧ p.f1.toList = q.f1.toList then ((refLines p q).2.1,(refLines p q).1,(refLines p q).2.2)
 else if p.f0 = 10 ∧ q.f0 = 10 then (p,q,apR p q.f1 && apR p q.f2)
 else if p.f0 = 10 ∧ 7 ≤ q.f0 ∧ q.f0 ≤ 9 then (p,{ q with f1:=(carryS q.f1 p.f2 p.f1).1 },(carryS q.f1 p.f2 p.f1).2)
 else if (7 ≤ p.f0 ∧ p.f0 ≤ 9) ∧ q.f0 = 10 then ({ p with f1:=(carryS p.f1 q.f1 q.f2).1 },q,(carryS p.f1 q.f1 q.f2).2)
 else if p.f0 = 10 then (p,q,apR p q.f1)
 else if q.f0 = 10 then (p,q,apR q p.f1)
 else if p.f0 ≤ 6 ∧ q.f0 ≤ 6 then (p,q,apartB p.f1 q.f1)
 else (p,q,p.f1.toList != q.f1.toList)
def refComm (p q : S24) : S24 × S24 × Bool :=
 if primB p = true ∧ primB q = true ∧ (refStep p q).2.2 = true ∧ primB (refStep p q).1 = true ∧ primB (refStep p q).2.1 = true then ((refStep p q).2.1,(refStep p q).1,true) else (z24,z24,false)
theorem pathsS_ten {x : S24} (h : x.f0 = 10) : pathsS x = [x.f1,x.f2]:=if_pos h
theorem pathsS_not {x : S24} (h : ¬ x.f0 = 10) : pathsS x = [x.f1]:=if_neg h
theorem apR_eq (m : S24) (s : ByteArray) : apR m s = (apartB m.f1 s && apartB m.f2 s):=by unfold apR; cases apartB m.f1 s <;> rfl
/-- The reference's step is the program's rule, where it may be. -/
theorem step_rule {p q : S24} (hp : Rt p) (hq : Rt q) (sp : Ok24 p) (sq : Ok24 q) : refStep p q = ruleS p q ∨ (refStep p q).2.2 = false ∧ (ruleS p q).2.2 = false:=by
 have hi:=hp.hi
 have hj:=hq.hi
 by_cases h7 : p.f0 = 7 ∧ q.f0 = 7 ∧ p.f1.toList = q.f1.toList
 ·unfold refStep
  rw [if_pos h7]
  obtain ⟨g1,g2,g3⟩:=h7
  have er : ruleS p q = bothS p q:=by
   unfold ruleS
   rw [if_neg (by omega),if_pos (by omega),if_neg (by omega),if_pos (by omega)]
  have eb : bothS p q = (if wrap64 (q.f4 - (p.f6.length : Int)) > p.f4 then (p,{ q with f4:=wrap64 (q.f4 + wrap64 ((p.f5.length : Int) - (p.f6.length : Int))) },true)
   else if wrap64 (p.f4 - (q.f5.length : Int)) > q.f4 then ({ p with f4:=wrap64 (p.f4 + wrap64 ((q.f6.length : Int) - (q.f5.length : Int))) },q,true)
   else (p,q,false)):=by
   unfold bothS
   rw [if_pos g3,if_pos ⟨g1,g2⟩]
  rw [er,eb]
  unfold refLines
  obtain ⟨p0,p1,p2,p3,p4,p5,p6⟩:=p
  obtain ⟨q0,q1,q2,q3,q4,q5,q6⟩:=q
  obtain ⟨-,-,hp0,hp1⟩:=hp
  obtain ⟨-,-,hq0,hq1⟩:=hq
  obtain ⟨sp5,sp6⟩:=sp
  obtain ⟨sq5,sq6⟩:=sq
  dsimp only at hp0 hp1 hq0 hq1 sp5 sp6 sq5 sq6 ⊢
  have e1 : wrap64 (q4 - (p6.length : Int)) = q4 - (p6.length : Int):=wrap_id (by omega) (by omega)
  have e2 : wrap64 (p4 - (q5.length : Int)) = p4 - (q5.length : Int):=wrap_id (by omega) (by omega)
  have e3 : wrap64 ((p5.length : Int) - (p6.length : Int)) = (p5.length : Int) - (p6.length : Int):=wrap_id (by omega) (by omega)
  have e4 : wrap64 (q4 + ((p5.length : Int) - (p6.length : Int))) = q4 - (p6.length : Int) + (p5.length : Int):=by rw [wrap_id (by omega) (by omega)]; omega
  have e4' : wrap64 (q4 - (p6.length : Int) + (p5.length : Int)) = q4 - (p6.length : Int) + (p5.length : Int):=wrap_id (by omega) (by omega)
  have e5 : wrap64 ((q6.length : Int) - (q5.length : Int)) = (q6.length : Int) - (q5.length : Int):=wrap_id (by omega) (by omega)
  have e6 : wrap64 (p4 + ((q6.length : Int) - (q5.length : Int))) = p4 - (q5.length : Int) + (q6.length : Int):=by rw [wrap_id (by omega) (by omega)]; omega
  have e6' : wrap64 (p4 - (q5.length : Int) + (q6.length : Int)) = p4 - (q5.length : Int) + (q6.length : Int):=wrap_id (by omega) (by omega)
  rw [e1,e2,e3,e4,e4',e5,e6,e6']
  by_cases c1 : q4 - (p6.length : Int) > p4
  ·rw [if_pos ⟨by omega,c1⟩,if_pos c1]
   exact .inl rfl
  ·rw [if_neg (fun e => c1 e.2),if_neg c1]
   by_cases c2 : p4 - (q5.length : Int) > q4
   ·rw [if_pos ⟨by omega,c2⟩,if_pos c2]
    exact .inl rfl
   ·rw [if_neg (fun e => c2 e.2),if_neg c2]
    exact .inr ⟨rfl,rfl⟩
 ·left
  by_cases cp : p.f0 = 10
  ·by_cases cq : q.f0 = 10
   ·have el : refStep p q = (p,q,apR p q.f1 && apR p q.f2):=by
     unfold refStep
     rw [if_neg h7,if_pos ⟨cp,cq⟩]
    have er : ruleS p q = (p,q,apartL (pathsS p) (pathsS q)):=by
     unfold ruleS
     rw [if_pos cp,if_pos cq]
    rw [el,er,pathsS_ten cp,pathsS_ten cq,apR_eq,apR_eq]
    unfold apartL
    simp only [List.all_cons,List.all_nil,Bool.and_true]
    refine congrArg (fun t => (p,q,t)) ?_
    cases apartB p.f1 q.f1 <;> cases apartB p.f2 q.f1 <;> cases apartB p.f1 q.f2 <;> cases apartB p.f2 q.f2 <;> rfl
   ·by_cases dq : 7 ≤ q.f0
    ·have el : refStep p q = (p,{ q with f1:=(carryS q.f1 p.f2 p.f1).1 },(carryS q.f1 p.f2 p.f1).2):=by
      unfold refStep
      rw [if_neg h7,if_neg (fun e => cq e.2),if_pos ⟨cp,dq,by omega⟩]
     have er : ruleS p q = (p,{ q with f1:=(carryS q.f1 p.f2 p.f1).1 },(carryS q.f1 p.f2 p.f1).2):=by
      unfold ruleS
      rw [if_pos cp,if_neg cq,if_pos dq]
     rw [el,er]
    ·have el : refStep p q = (p,q,apR p q.f1):=by
      unfold refStep
      rw [if_neg h7,if_neg (fun e => cq e.2),if_neg (fun e => dq e.2.1),if_neg (fun e => cq e.2),if_pos cp]
     have er : ruleS p q = (p,q,apartL (pathsS p) (pathsS q)):=by
      unfold ruleS
      rw [if_pos cp,if_neg cq,if_neg dq]
     rw [el,er,pathsS_ten cp,pathsS_not cq,apR_eq]
     unfold apartL
     simp only [List.all_cons,List.all_nil,Bool.and_true]
  ·by_cases dp : 7 ≤ p.f0
   ·by_cases cq : q.f0 = 10
    ·have el : refStep p q = ({ p with f1:=(carryS p.f1 q.f1 q.f2).1 },q,(carryS p.f1 q.f1 q.f2).2):=by
      unfold refStep
      rw [if_neg h7,if_neg (fun e => cp e.1),if_neg (fun e => cp e.1),if_pos ⟨⟨dp,by omega⟩,cq⟩]
     have er : ruleS p q = ({ p with f1:=(carryS p.f1 q.f1 q.f2).1 },q,(carryS p.f1 q.f1 q.f2).2):=by
      unfold ruleS
      rw [if_neg cp,if_pos dp,if_pos cq]
     rw [el,er]
    ·by_cases dq : 7 ≤ q.f0
     ·have el : refStep p q = (p,q,p.f1.toList != q.f1.toList):=by
       unfold refStep
       rw [if_neg h7,if_neg (fun e => cp e.1),if_neg (fun e => cp e.1),if_neg (fun e => cq e.2),if_neg cp,if_neg cq,if_neg (fun e => by omega)]
      have er : ruleS p q = bothS p q:=by
       unfold ruleS
       rw [if_neg cp,if_pos dp,if_neg cq,if_pos dq]
      rw [el,er]
      unfold bothS
      by_cases h1 : p.f1.toList = q.f1.toList
      ·rw [if_pos h1,if_neg (fun e => h7 ⟨e.1,e.2,h1⟩),show (p.f1.toList != q.f1.toList) = false by simpa using h1]
      ·rw [if_neg h1,show (p.f1.toList != q.f1.toList) = true by simpa using h1]
     ·have el : refStep p q = (p,q,p.f1.toList != q.f1.toList):=by
       unfold refStep
       rw [if_neg h7,if_neg (fun e => cp e.1),if_neg (fun e => cp e.1),if_neg (fun e => cq e.2),if_neg cp,if_neg cq,if_neg (fun e => by omega)]
      have er : ruleS p q = (p,q,p.f1.toList != q.f1.toList):=by
       unfold ruleS
       rw [if_neg cp,if_pos dp,if_neg cq,if_neg dq]
      rw [el,er]
   ·by_cases cq : q.f0 = 10
    ·have el : refStep p q = (p,q,apR q p.f1):=by
      unfold refStep
      rw [if_neg h7,if_neg (fun e => cp e.1),if_neg (fun e => cp e.1),if_neg (fun e => dp e.1.1),if_neg cp,if_pos cq]
     have er : ruleS p q = (p,q,apartL (pathsS p) (pathsS q)):=by
      unfold ruleS
      rw [if_neg cp,if_neg dp,if_pos cq]
     rw [el,er,pathsS_not cp,pathsS_ten cq,apR_eq]
     unfold apartL
     simp only [List.all_cons,List.all_nil,Bool.and_true]
     rw [apart_comm q.f1,apart_comm q.f2]
    ·by_cases dq : 7 ≤ q.f0
     ·have el : refStep p q = (p,q,p.f1.toList != q.f1.toList):=by
       unfold refStep
       rw [if_neg h7,if_neg (fun e => cp e.1),if_neg (fun e => cp e.1),if_neg (fun e => cq e.2),if_neg cp,if_neg cq,if_neg (fun e => by omega)]
      have er : ruleS p q = (p,q,p.f1.toList != q.f1.toList):=by
       unfold ruleS
       rw [if_neg cp,if_neg dp,if_neg cq,if_pos dq]
      rw [el,er]
     ·have el : refStep p q = (p,q,apartB p.f1 q.f1):=by
       unfold refStep
       rw [if_neg h7,if_neg (fun e => cp e.1),if_neg (fun e => cp e.1),if_neg (fun e => cq e.2),if_neg cp,if_neg cq,if_pos ⟨by omega,by omega⟩]
      have er : ruleS p q = (p,q,apartL (pathsS p) (pathsS q)):=by
       unfold ruleS
       rw [if_neg cp,if_neg dp,if_neg cq,if_neg dq]
      rw [el,er,pathsS_not cp,pathsS_not cq]
      unfold apartL
      simp only [List.all_cons,List.all_nil,Bool.and_true]
theorem refComm_eq {p q : S24} (sp : Ok24 p) (sq : Ok24 q) : refComm p q = comm p q:=by
 unfold refComm comm
 by_cases hp : primB p = true
 ·by_cases hq : primB q = true
  ·rcases step_rule (rt_of hp) (rt_of hq) sp sq with h | ⟨h1,h2⟩
   ·rw [h]
   ·rw [if_neg (fun e => by rw [h1] at e; cases e.2.2.1),if_neg (fun e => by rw [h2] at e; cases e.2.2.1)]
  ·rw [if_neg (fun e => hq e.2.1),if_neg (fun e => hq e.2.1)]
 ·rw [if_neg (fun e => hp e.1),if_neg (fun e => hp e.1)]

/-! ### sizes -/
theorem pieces_sum (c : UInt8) : ∀ l : List UInt8,((pieces c l).map (fun y => y.length + 1)).sum = l.length + 1
 | [] => rfl
 | b :: l => by
  have ih:=pieces_sum c l
  unfold pieces
  split
  ·rw [List.map_cons,List.sum_cons,ih,List.length_cons,List.length_nil]
   omega
  ·cases h : pieces c l with
   | nil => exact absurd h (pieces_ne c l)
   | cons p r =>
    rw [h,List.map_cons,List.sum_cons] at ih
    show ((((b :: p) :: r).map (fun y => y.length + 1)).sum) = _
    rw [List.map_cons,List.sum_cons,List.length_cons,List.length_cons]
    omega
theorem sum_le : ∀ L : List (List UInt8),(∀ y ∈ L,y.length ≤ 16) → (L.map (fun y => y.length + 1)).sum ≤ 17 * L.length
 | [],_ => Nat.le_refl _
 | y :: L,h => by
  have ih:=sum_le L (fun z hz => h z (List.mem_cons_of_mem _ hz))
  have h1:=h y (List.mem_cons_self ..)
  rw [List.map_cons,List.sum_cons,List.length_cons]
  omega
theorem part_size {s : ByteArray} (h : partB s = true) : s.size ≤ 16:=by
 unfold partB at h
 by_cases h0 : s.toList = []
 ·rw [if_pos h0] at h
  cases h
 ·rw [if_neg h0] at h
  by_cases h1 : s.size ≤ 16
  ·exact h1
  ·rw [if_neg h1] at h
   cases h
theorem right_size {s : ByteArray} (h : rightB s = true) : s.size ≤ 136:=by
 unfold rightB at h
 simp only [Bool.and_eq_true,List.all_eq_true,decide_eq_true_eq] at h
 have h1:=sum_le (pieces 47 s.data.toList) (fun y hy => by
  have:=part_size (h.1 y hy)
  have e : (⟨y.toArray⟩ : ByteArray).size = y.length:=by simp [ByteArray.size]
  omega)
 rw [pieces_sum,dlen] at h1
 omega
theorem prim_f1 {x : S24} (h : primB x = true) : x.f1.size ≤ 136:=by
 unfold primB at h
 simp only [Bool.and_eq_true] at h
 exact right_size h.1.1
theorem prim_f2 {x : S24} (h : primB x = true) (h10 : x.f0 = 10) : x.f2.size ≤ 136:=by
 unfold primB kindB at h
 rw [if_neg (by omega),if_neg (by omega)] at h
 by_cases h3 : x.f3.toList = ([] : List UInt8)
 ·rw [if_pos h3,if_pos h10] at h
  simp only [Bool.and_eq_true] at h
  exact right_size h.2.1
 ·rw [if_neg h3,Bool.and_false] at h
  cases h
theorem rule_keep {p q a b : S24} {r : Bool} (h : ruleS p q = (b,a,r)) : b = { p with f1:=b.f1,f4:=b.f4 } ∧ a = { q with f1:=a.f1,f4:=a.f4 }:=by
 unfold ruleS bothS at h
 repeat' split at h
 all_goals
  obtain ⟨rfl,rfl,-⟩:=prod3 h
  exact ⟨rfl,rfl⟩
theorem carry_size (s fr dst : ByteArray) : (carryS s fr dst).1.size ≤ dst.size + s.size:=by
 unfold carryS
 split
 ·show (dst ++ s.extract fr.size s.size).size ≤ _
  rw [ByteArray.size_append,ByteArray.size_extract]
  omega
 ·show s.size ≤ _
  omega
theorem both_f1 (p q : S24) : (bothS p q).1.f1 = p.f1 ∧ (bothS p q).2.1.f1 = q.f1:=by
 unfold bothS
 repeat' split
 all_goals exact ⟨rfl,rfl⟩
theorem rule_f1 {p q : S24} (hp : primB p = true) (hq : primB q = true) : (ruleS p q).1.f1.size ≤ 272 ∧ (ruleS p q).2.1.f1.size ≤ 272:=by
 have h1:=prim_f1 hp
 have h2:=prim_f1 hq
 have z : ∀ r : S24 × S24 × Bool,r.1.f1 = p.f1 ∧ r.2.1.f1 = q.f1 → r.1.f1.size ≤ 272 ∧ r.2.1.f1.size ≤ 272:=fun r h => by rw [h.1,h.2]; omega
 unfold ruleS
 by_cases cp : p.f0 = 10
 ·rw [if_pos cp]
  by_cases cq : q.f0 = 10
  ·rw [if_pos cq]
   exact z _ ⟨rfl,rfl⟩
  ·rw [if_neg cq]
   by_cases dq : 7 ≤ q.f0
   ·rw [if_pos dq]
    refine ⟨by show p.f1.size ≤ _; omega,?_⟩
    have:=carry_size q.f1 p.f2 p.f1
    show (carryS q.f1 p.f2 p.f1).1.size ≤ _
    omega
   ·rw [if_neg dq]
    exact z _ ⟨rfl,rfl⟩
 ·rw [if_neg cp]
  by_cases dp : 7 ≤ p.f0
  ·rw [if_pos dp]
   by_cases cq : q.f0 = 10
   ·rw [if_pos cq]
    refine ⟨?_,by show q.f1.size ≤ _; omega⟩
    have:=carry_size p.f1 q.f1 q.f2
    have:=prim_f2 hq cq
    show (carryS p.f1 q.f1 q.f2).1.size ≤ _
    omega
   ·rw [if_neg cq]
    by_cases dq : 7 ≤ q.f0
    ·rw [if_pos dq]
     exact z _ (both_f1 p q)
    ·rw [if_neg dq]
     exact z _ ⟨rfl,rfl⟩
  ·rw [if_neg dp]
   repeat' split
   all_goals exact z _ ⟨rfl,rfl⟩
theorem okp_rule {p q a b : S24} {r : Bool} (h : ruleS p q = (b,a,r)) (hp : primB p = true) (hq : primB q = true) (sp : Okp p) (sq : Okp q) : Okp b ∧ Okp a:=by
 have hf:=rule_f1 hp hq
 rw [h] at hf
 obtain ⟨h1,h2⟩:=rule_keep h
 obtain ⟨f1,f2⟩:=hf
 dsimp only at f1 f2
 constructor
 ·rw [h1]
  exact ⟨sp.ok,by show b.f1.size ≤ _; omega,sp.s2,sp.s3⟩
 ·rw [h2]
  exact ⟨sq.ok,by show a.f1.size ≤ _; omega,sq.s2,sq.s3⟩
theorem okp_yes {p q a b : S24} (h : Yes p q a b) (hp : Okp p) (hq : Okp q) : Okp a ∧ Okp b:=by
 obtain ⟨h1,h2⟩:=rule_keep h.r
 have ha:=prim_f1 h.ha
 have hb:=prim_f1 h.hb
 constructor
 ·rw [h2]
  exact ⟨hq.ok,by show a.f1.size ≤ _; omega,hq.s2,hq.s3⟩
 ·rw [h1]
  exact ⟨hp.ok,by show b.f1.size ≤ _; omega,hp.s2,hp.s3⟩
theorem okq_yes {p q a b : S24} (h : Yes p q a b) (hp : Okq p) (hq : Okq q) : Okq a ∧ Okq b:=by
 obtain ⟨ha,hb⟩:=okp_yes h hp.ok hq.ok
 obtain ⟨h1,h2⟩:=rule_keep h.r
 refine ⟨⟨ha,?_,?_⟩,⟨hb,?_,?_⟩⟩
 ·rw [h2]
  exact hq.l5
 ·rw [h2]
  exact hq.l6
 ·rw [h1]
  exact hp.l5
 ·rw [h1]
  exact hp.l6

/-! ### several -/
/-- A patch, and several behind it, the other way about. -/
def pastS : S24 → List S24 → Option (List S24 × S24)
 | p,[] => some ([],p)
 | p,x :: l => if (comm p x).2.2 = true then (pastS (comm p x).2.1 l).map (fun r => ((comm p x).1 :: r.1,r.2)) else none
def past (p : S24) (l : List S24) : List S24 × S24 × Bool:=match pastS p l with
 | some r => (r.1,r.2,true)
 | none => ([],z24,false)
end Go.Proofs.YthhohbidjhcjeaaDoor.Pl
