/- The statement PrimAdds holds: whatever the input the law returns true, and the input reads behind the call as before; the listed tables are tied to the program's text. -/
import Derived.Test.YthhohbidjhcjeaaGreatDoorBM8
import Derived.Test.YthhohbidjhcjeaaGreatDoorBT2
import Derived.Test.YthhohbidjhcjeaaGreatDoorBM6
import Derived.Test.YthhohbidjhcjeaaGreatDoorRows
import Derived.Test.YthhohbidjhcjeaaGreatDoorCards
import Derived.Test.YthhohbidjhcjeaaGreatDoorTie
import Derived.WalkKit
import Derived.ProofKit
import Derived.OpenShut
import Derived.ShutString
import Derived.ChangeOld
import Derived.Below
import Derived.SizedLaws
import Derived.Lay
import Derived.LaidOnce
import Derived.LaidMore
import Derived.SevenTiedAt
namespace Go.Proofs.YthhohbidjhcjeaaGreatDoor.H
open Go.RowKit Go.Shelf Go.Proofs.YthhohbidjhcjeaaGreatDoorW.PrintWords Go.Proofs.YthhohbidjhcjeaaGreatDoorW.PrintLast Go.Proofs.YthhohbidjhcjeaaGreatDoorW.PrintMore
open Go.Proofs.YthhohbidjhcjeaaGreatDoor.Q Go.Proofs.YthhohbidjhcjeaaGreatDoor.Pl
set_option linter.unusedVariables false
set_option linter.unusedSimpArgs false
/-- The reference's Right of trees, of small things, asked at any world that grew. -/
theorem TR_at (l : List S41) (A : Option Addr) (c : Nat) (w : World) (hr : Kd.C k41 w A l.length l) (hc : l.length ≤ c) (hs : ∀ x ∈ l,Small x) :
  ∀ U,Below w.heap.size w U → Calls Tryz.prog 31 #[.slice A l.length c] U fun e w' => e = .returned (.bool (treeB l)) ∧ Below U.heap.size U w':=fun U hU =>
 treeR_at l A c U (Kd.C_below hr hU) hc (fun x hx => by have:=(hs x hx).p; omega) (fun x hx => by have:=(hs x hx).n; omega) (fun x hx s hm => by have:=(hs x hx).s s hm; omega)
end Go.Proofs.YthhohbidjhcjeaaGreatDoor.H
namespace Go.Proofs.YthhohbidjhcjeaaGreatDoor.H
open Go.RowKit Go.Proofs.YthhohbidjhcjeaaGreatDoor.Q Go.Proofs.YthhohbidjhcjeaaGreatDoor.Pl
set_option linter.unusedVariables false
set_option linter.unusedSimpArgs false
/-! ### lengths -/
/-! ### apart ones -/
end Go.Proofs.YthhohbidjhcjeaaGreatDoor.H
namespace Go.Proofs.YthhohbidjhcjeaaGreatDoor.H
open Go.RowKit Go.Proofs.YthhohbidjhcjeaaGreatDoor.Q Go.Proofs.YthhohbidjhcjeaaGreatDoor.Pl
set_option linter.unusedVariables false
set_option linter.unusedSimpArgs false
/-- A patch that adds nothing but a thing of a kind at a path. -/
def addP (k : Int) (path : ByteArray) : S25:=⟨k,path,e0,e0,0,[],[]⟩
theorem prim_addP {k : Int} (h1 : 1 ≤ k) (h6 : k ≤ 6) (path : ByteArray) : primB (addP k path) = rightB path:=by
 have e : e0.toList = ([] : List UInt8):=by rw [toList_data]; rfl
 unfold primB kindB listedB addP
 dsimp only
 rw [if_neg (by omega),if_neg (by omega),if_pos e,if_neg (by omega),if_neg (by omega),e]
 have a : decide (k ≥ 1) = true:=decide_eq_true h1
 have b : decide (k ≤ 6) = true:=decide_eq_true h6
 rw [a,b]
 simp
/-- Can a thing be added at a path? -/
def mayB (l : List S41) (path : ByteArray) : Bool:=rightB path && (findV l path).isNone && (match parentV path with | none => true | some u => match findV l u with | none => false | some d => decide (d.f1 = 1))
theorem may_iff (l : List S41) (path : ByteArray) : mayB l path = true ↔ rightB path = true ∧ findV l path = none ∧ Up l path:=by
 unfold mayB Up
 simp only [Bool.and_eq_true,Option.isNone_iff_eq_none]
 cases hp : parentV path with
 | none => simp
 | some u =>
  cases hf : findV l u with
  | none => simp [hf]
  | some d => simp [hf,and_assoc]
theorem adds_zero {l : List S41} (ht : Tr l) (hl : l.length < 1024) {k : Int} (hk : k = 1 ∨ k = 3 ∨ k = 5) (path : ByteArray) : applyE l (addP k path) = 0 ↔ mayB l path = true:=by
 rw [apply_zero,may_iff,prim_addP (by omega) (by omega),(doE_add (l:=l) (p:=addP k path) hk).1,add_zero]
 constructor
 ·rintro ⟨_,b,c,d,_⟩; exact ⟨b,c,d⟩
 ·rintro ⟨b,c,d⟩; exact ⟨ht,b,c,d,by omega⟩
theorem adds_laws {l : List S41} {k : Int} (hk : k = 1 ∨ k = 3 ∨ k = 5) {path : ByteArray} (h : applyE l (addP k path) = 0) :
  findV (doL l (addP k path)) path = some (newE (addP k path)) ∧ applyE (doL l (addP k path)) (addP k path) = 71 ∧ applyE (doL l (addP k path)) (addP (k + 1) path) = 0 ∧ doL (doL l (addP k path)) (addP (k + 1) path) = l:=by
 obtain ⟨u1,u2⟩:=undo h
 have hT:=apply_tree h
 obtain ⟨ht,hp,hd⟩:=apply_zero.mp h
 have ei : invS (addP k path) = addP (k + 1) path:=by
  rcases hk with rfl | rfl | rfl <;> rfl
 rw [ei] at u1 u2
 have hf : findV (doL l (addP k path)) path = some (newE (addP k path)):=by
  rw [(doE_add (l:=l) (p:=addP k path) hk).1] at hd
  rw [(doE_add (l:=l) (p:=addP k path) hk).2,ins_find ht.s (x:=newE (addP k path)) (add_zero.mp hd).1]
  exact if_pos rfl
 refine ⟨hf,?_,u1,u2⟩
 unfold applyE
 rw [if_pos (by rw [tree_iff.mpr hT,hp]; rfl),(doE_add (p:=addP k path) hk).1]
 have : roomV (doL l (addP k path)) path = 71:=by unfold roomV; rw [hf]; rfl
 unfold addE
 show (if roomV (doL l (addP k path)) path = 0 then _ else roomV (doL l (addP k path)) path) = 71
 rw [this]; rfl
end Go.Proofs.YthhohbidjhcjeaaGreatDoor.H
namespace Go.Proofs.YthhohbidjhcjeaaGreatDoor.H
open Go.RowKit Go.Shelf Go.Proofs.YthhohbidjhcjeaaGreatDoorW.PrintWords Go.Proofs.YthhohbidjhcjeaaGreatDoorW.PrintLast Go.Proofs.YthhohbidjhcjeaaGreatDoorW.PrintMore
open Go.Proofs.YthhohbidjhcjeaaGreatDoor.Q Go.Proofs.YthhohbidjhcjeaaGreatDoor.Pl
set_option linter.unusedVariables false
set_option linter.unusedSimpArgs false
theorem AP_at (b : Nat) (k : Int) (s : ByteArray) (l : List S41) (A : Option Addr) (c : Nat) (w : World) (hr : Kd.C k41 w A l.length l) (hb : Bnd b l) (hb0 : b ≤ 1000000000) (hs : s.size < 4000) :
  ∀ U,Below w.heap.size w U → Calls Tryz.prog 23 #[.slice A l.length c,.agg #[.int .i64 k,.string s,.string ⟨#[]⟩,.string ⟨#[]⟩,.int .i64 0,.slice none 0 0,.slice none 0 0]] U fun e w' =>
   ∃ S,e = .returned (.tuple #[S,.int .i64 (applyE l (addP k s))]) ∧ Below U.heap.size U w' ∧ (applyE l (addP k s) = 0 → ∃ A c,S = .slice A (doL l (addP k s)).length c ∧ (doL l (addP k s)).length ≤ c ∧ Kd.C k41 w' A (doL l (addP k s)).length (doL l (addP k s))) ∧ (applyE l (addP k s) ≠ 0 → S = .slice none 0 0):=fun U hU =>
 A_at l A c (addP k s) none 0 none 0 w hr ⟨strC0 _ _,Nat.le_refl 0,strC0 _ _,Nat.le_refl 0⟩ (hb.fit hb0)
  ⟨⟨⟨by show 0 ≤ _; omega,by show 0 ≤ _; omega⟩,by show s.size ≤ _; omega,by show e0.size ≤ _; decide,by show e0.size ≤ _; decide⟩,by show 0 ≤ _; omega,by show 0 ≤ _; omega,by show e0.size ≤ _; decide⟩ U hU
theorem addQ {k : Int} {s : ByteArray} (hs : s.size < 4000) : SmallQ (addP k s) :=
 ⟨hs,by show e0.size < 4000; decide,by show e0.size < 4000; decide,by show 0 < 4000; decide,by show 0 < 4000; decide,(fun t ht => (by cases ht)),(fun t ht => (by cases ht))⟩
theorem may_false {l : List S41} {s : ByteArray} (h : ¬ mayB l s = true) : rightB s = false ∨ (findV l s).isSome = true ∨ ∃ u,parentV s = some u ∧ ((findV l u).isSome = false ∨ (findV l u).isSome = true ∧ ((thingAt l u).f1 == 1) = false):=by
 cases hr : rightB s with
 | false => exact .inl rfl
 | true =>
  cases hf : findV l s with
  | some x => exact .inr (.inl rfl)
  | none =>
   refine .inr (.inr ?_)
   unfold mayB at h
   rw [hr,hf] at h
   cases hp : parentV s with
   | none => rw [hp] at h; exact absurd rfl h
   | some u =>
    rw [hp] at h
    refine ⟨u,rfl,?_⟩
    cases hu : findV l u with
    | none => exact .inl rfl
    | some d =>
     right
     refine ⟨rfl,?_⟩
     unfold thingAt
     rw [hu]
     rw [beq_eq_false_iff_ne]
     intro e
     simp [hu,show d.f1 = 1 from e] at h
theorem may_true {l : List S41} {s : ByteArray} (h : mayB l s = true) : rightB s = true ∧ (findV l s).isSome = false ∧ (parentV s = none ∨ ∃ u,parentV s = some u ∧ (findV l u).isSome = true ∧ (thingAt l u).f1 = 1):=by
 obtain ⟨h1,h2,h3⟩:=(may_iff l s).1 h
 refine ⟨h1,by rw [h2]; rfl,?_⟩
 cases hp : parentV s with
 | none => exact .inl rfl
 | some u =>
  obtain ⟨y,hy,e⟩:=h3 u hp
  refine .inr ⟨u,rfl,by rw [hy]; rfl,?_⟩
  unfold thingAt
  rw [hy]
  exact e
set_option maxHeartbeats 4000000 in
set_option maxRecDepth 1000000 in
theorem adds0_calls (l : List S41) (A : Option Addr) (c : Nat) (s : ByteArray) (a : Int) (w : World) (hr : Kd.C k41 w A l.length l) (hc : l.length ≤ c) (hn : l.length ≤ 140737488355328) (hx : ∀ x ∈ l,x.f2.length ≤ 140737488355328) (ha : a.tmod 3 = 0) :
  Calls Tryz.prog 7 #[.slice A l.length c,.string s,.int .u8 a] w fun e w' => e = .returned (.bool true) ∧ Below w.heap.size w w':=by
 obtain ⟨g,hgs,hG⟩:=G_at l A c w hr hc hn hx
 replace hG:=Aside0.mk hG
 replace hgs:=Aside0.mk hgs
 replace hn:=Aside0.mk hn
 replace hx:=Aside0.mk hx
 replace hr:=Aside0.mk hr
 replace hc:=Aside0.mk hc
 go_enter Tryz.func7,Tryz.ntmps7
 go_wp2_with (fail)
 refine (head08_calls _).mono ?_
 rintro e w1 ⟨rfl,hb1⟩
 have hs1 : Below w.heap.size w w1:=two_steps (by repeat (first | exact Below.refl _ _ | refine Below.setCell ?_ (by simp <;> omega) _ | refine Below.alloc ?_ (by simp <;> omega) _ | refine Below.drew ?_)) hb1
 have hw1 : Below w.heap.size w w1:=(Below.refl w.heap.size w).trans (hs1.mono (Below.refl w.heap.size w).size)
 clear hb1
 go_wp2_with (fail)
 refine (hG.out _ (by repeat (first | with_reducible exact hw1 | refine Below.setCell ?_ (by have:=hw1.size; simp <;> omega) _ | refine Below.alloc ?_ (by have:=hw1.size; simp <;> omega) _ | refine Below.drew ?_))).mono ?_
 rintro e w2 ⟨rfl,hb2⟩
 have hs2 : Below w1.heap.size w1 w2:=two_steps (by repeat (first | exact Below.refl _ _ | refine Below.setCell ?_ (by simp <;> omega) _ | refine Below.alloc ?_ (by simp <;> omega) _ | refine Below.drew ?_)) hb2
 have hw2 : Below w.heap.size w w2:=hw1.trans (hs2.mono hw1.size)
 clear hb2
 cases g with
 | true =>
  go_wp2
  go_ret
  exact ⟨rfl,(by repeat (first | with_reducible exact hw2 | refine Below.setCell ?_ (by have:=hw2.size; simp <;> omega) _ | refine Below.alloc ?_ (by have:=hw2.size; simp <;> omega) _ | refine Below.drew ?_))⟩
 | false =>
  have hsm:=Aside0.mk (hgs.out (by trivial))
  have hT:=Aside0.mk (TR_at l A c w hr.out hc.out hsm.out.2)
  by_cases hs : s.size ≤ 1000
  ·skip
   have hb1 : decide ((s.size : Int) > 1000) = false:=decide_eq_false (by omega)
   have hb2 : decide ((1000 : Int) < (s.size : Int)) = false:=decide_eq_false (by omega)
   have hb3 : decide (1000 < s.size) = false:=decide_eq_false (by omega)
   have hb4 : (1000 < s.size) = False:=eq_false (by omega)
   replace hs:=Aside0.mk hs
   cases ht : treeB l with
   | false =>
    rw [ht] at hT
    go_wp2_with (fail)
    refine (hT.out _ (by repeat (first | with_reducible exact hw2 | refine Below.setCell ?_ (by have:=hw2.size; simp <;> omega) _ | refine Below.alloc ?_ (by have:=hw2.size; simp <;> omega) _ | refine Below.drew ?_))).mono ?_
    rintro e w3 ⟨rfl,hb3⟩
    have hs3 : Below w2.heap.size w2 w3:=two_steps (by repeat (first | exact Below.refl _ _ | refine Below.setCell ?_ (by simp <;> omega) _ | refine Below.alloc ?_ (by simp <;> omega) _ | refine Below.drew ?_)) hb3
    have hw3 : Below w.heap.size w w3:=hw2.trans (hs3.mono hw2.size)
    clear hb3
    go_wp2
    go_ret
    exact ⟨rfl,(by repeat (first | with_reducible exact hw3 | refine Below.setCell ?_ (by have:=hw3.size; simp <;> omega) _ | refine Below.alloc ?_ (by have:=hw3.size; simp <;> omega) _ | refine Below.drew ?_))⟩
   | true =>
    rw [ht] at hT
    replace ht:=Aside0.mk ht
    go_wp2_with (fail)
    refine (hT.out _ (by repeat (first | with_reducible exact hw2 | refine Below.setCell ?_ (by have:=hw2.size; simp <;> omega) _ | refine Below.alloc ?_ (by have:=hw2.size; simp <;> omega) _ | refine Below.drew ?_))).mono ?_
    rintro e w3 ⟨rfl,hb3⟩
    have hs3 : Below w2.heap.size w2 w3:=two_steps (by repeat (first | exact Below.refl _ _ | refine Below.setCell ?_ (by simp <;> omega) _ | refine Below.alloc ?_ (by simp <;> omega) _ | refine Below.drew ?_)) hb3
    have hw3 : Below w.heap.size w w3:=hw2.trans (hs3.mono hw2.size)
    clear hb3
    have hl8 : l.length < 800:=hsm.out.1
    have hge : decide ((l.length : Int) ≥ 1024) = false:=decide_eq_false (by omega)
    have hge2 : decide ((1024 : Int) ≤ (l.length : Int)) = false:=decide_eq_false (by omega)
    have hge3 : decide (1024 ≤ l.length) = false:=decide_eq_false (by omega)
    have hge4 : (1024 ≤ l.length) = False:=eq_false (by omega)
    have hA:=fun U h => AP_at 4000 1 s l A c w hr.out (small_bnd hsm.out.2) (by decide) (by have:=hs.out; omega) U h
    have hz0:=adds_zero (tree_iff.1 ht.out) (show l.length < 1024 by omega) (k:=1) (by decide) s
    have hal:=fun h => adds_laws (l:=l) (k:=1) (path:=s) (by decide) h
    have hbM:=fun h => bnd_do (small_bnd hsm.out.2) (addQ (k:=1) (s:=s) (by have:=hs.out; omega)) (l:=l) h
    have hTM:=fun h => apply_tree (l:=l) (p:=addP 1 s) h
    obtain ⟨E,hE⟩ : ∃ E,applyE l (addP 1 s) = E:=⟨_,rfl⟩
    obtain ⟨M,hM⟩ : ∃ M,doL l (addP 1 s) = M:=⟨_,rfl⟩
    rw [hE,hM] at hA hal hbM hTM
    rw [hE] at hz0
    replace hA:=Aside0.mk hA
    replace hal:=Aside0.mk hal
    replace hbM:=Aside0.mk hbM
    replace hTM:=Aside0.mk hTM
    replace hz0:=Aside0.mk hz0
    clear hE hM hl8
    have hF:=fun U h => find_at l A c s w hr.out hc.out hn.out U h
    obtain ⟨y,hy⟩ : ∃ y,thingAt l s = y:=⟨_,rfl⟩
    rw [hy] at hF
    clear hy
    have hPa:=fun U => parentR_at s (by have:=hs.out; omega) U
    have hFp:=fun p U h => find_at l A c p w hr.out hc.out hn.out U h
    have hRt:=fun U => rightR_at s (by have:=hs.out; omega) U
    by_cases hmay : mayB l s = true
    ·obtain ⟨mr,mt,mp⟩:=may_true hmay
     have hE0:=hz0.out.2 hmay
     subst hE0
     rw [mr] at hRt
     rw [mt] at hF
     clear mr mt hmay hz0
     go_wp2_with (fail)
     refine (hA.out _ (by repeat (first | with_reducible exact hw3 | refine Below.setCell ?_ (by have:=hw3.size; simp <;> omega) _ | refine Below.alloc ?_ (by have:=hw3.size; simp <;> omega) _ | refine Below.drew ?_))).mono ?_
     rintro e w4 ⟨S,rfl,hb4,hS,-⟩
     have hs4 : Below w3.heap.size w3 w4:=two_steps (by repeat (first | exact Below.refl _ _ | refine Below.setCell ?_ (by simp <;> omega) _ | refine Below.alloc ?_ (by simp <;> omega) _ | refine Below.drew ?_)) hb4
     have hw4 : Below w.heap.size w w4:=hw3.trans (hs4.mono hw3.size)
     obtain ⟨A4,c4,rfl,hl4,hC4⟩:=hS (by trivial)
     clear hS
     replace hC4:=Aside0.mk hC4
     replace hl4:=Aside0.mk hl4
     clear hb4
     obtain ⟨m1,m2,m3,m4⟩:=hal.out (by trivial)
     replace hbM:=Aside0.mk (hbM.out (by trivial))
     have hMn : Aside0 (M.length ≤ 140737488355328):=⟨by have:=(hTM.out (by trivial)).n; omega⟩
     have hme : thingAt M s = newE (addP 1 s):=by unfold thingAt; rw [m1]; rfl
     have hF3 : ∀ U,Below w4.heap.size w4 U → Calls Tryz.prog 33 #[.slice A4 M.length c4,.string s] U fun e w' => ∃ X d,e = .returned (.tuple #[.agg #[.string s,.int .i64 1,.slice X 0 d,.string ⟨#[]⟩],.bool true]) ∧ Below U.heap.size U w':=fun U h => by
      have h3:=find_at M A4 c4 s w4 hC4.out hl4.out hMn.out U h
      rw [hme,m1] at h3
      refine h3.mono ?_
      rintro e w' ⟨X,d,rfl,-,-,hb⟩
      exact ⟨X,d,rfl,hb⟩
     have hA2:=fun U h => AP_at 8000 1 s M A4 c4 w4 hC4.out hbM.out (by decide) (by have:=hs.out; omega) U h
     have hA3:=fun U h => AP_at 8000 2 s M A4 c4 w4 hC4.out hbM.out (by decide) (by have:=hs.out; omega) U h
     rw [show (1 : Int) + 1 = 2 from rfl] at m3 m4
     rw [m2] at hA2
     rw [m3,m4] at hA3
     replace hF3:=Aside0.mk hF3
     replace hA2:=Aside0.mk hA2
     replace hA3:=Aside0.mk hA3
     clear m1 m2 m3 m4 hme hal hTM
     have hk : Below w4.heap.size w4 w4:=Below.refl _ _
     rcases mp with mp | ⟨u,mp,mi,mf⟩
     ·rw [mp] at hPa
      have hFq:=fun U h => hFp ⟨#[]⟩ U h
      obtain ⟨y1,hy1⟩ : ∃ y,thingAt l ⟨#[]⟩ = y:=⟨_,rfl⟩
      obtain ⟨i1,hi1⟩ : ∃ i,(findV l ⟨#[]⟩).isSome = i:=⟨_,rfl⟩
      rw [hy1,hi1] at hFq
      clear hFp hy1 hi1 mp
      dsimp only [Option.getD,Option.isSome] at hPa
      go_wp2_with (fail)
      refine (hF _ (by repeat (first | with_reducible exact hw4 | refine Below.setCell ?_ (by have:=hw4.size; simp <;> omega) _ | refine Below.alloc ?_ (by have:=hw4.size; simp <;> omega) _ | refine Below.drew ?_))).mono ?_
      rintro e w5 ⟨X2,d2,rfl,hd2,hX2,hb5⟩
      have hs5 : Below w4.heap.size w4 w5:=two_steps (by repeat (first | exact Below.refl _ _ | refine Below.setCell ?_ (by simp <;> omega) _ | refine Below.alloc ?_ (by simp <;> omega) _ | refine Below.drew ?_)) hb5
      have hw5 : Below w.heap.size w w5:=hw4.trans (hs5.mono hw4.size)
      clear hd2 hX2
      clear hb5
      replace hk:=hk.trans (hs5.mono hk.size)
      go_wp2_with (fail)
      refine (hPa _).mono ?_
      rintro e w6 ⟨rfl,hb6⟩
      have hs6 : Below w5.heap.size w5 w6:=two_steps (by repeat (first | exact Below.refl _ _ | refine Below.setCell ?_ (by simp <;> omega) _ | refine Below.alloc ?_ (by simp <;> omega) _ | refine Below.drew ?_)) hb6
      have hw6 : Below w.heap.size w w6:=hw5.trans (hs6.mono hw5.size)
      clear hb6
      replace hk:=hk.trans (hs6.mono hk.size)
      go_wp2_with (fail)
      refine (hFq _ (by repeat (first | with_reducible exact hw6 | refine Below.setCell ?_ (by have:=hw6.size; simp <;> omega) _ | refine Below.alloc ?_ (by have:=hw6.size; simp <;> omega) _ | refine Below.drew ?_))).mono ?_
      rintro e w7 ⟨Xq,dq,rfl,hd2,hX2,hb7⟩
      have hs7 : Below w6.heap.size w6 w7:=two_steps (by repeat (first | exact Below.refl _ _ | refine Below.setCell ?_ (by simp <;> omega) _ | refine Below.alloc ?_ (by simp <;> omega) _ | refine Below.drew ?_)) hb7
      have hw7 : Below w.heap.size w w7:=hw6.trans (hs7.mono hw6.size)
      clear hd2 hX2
      clear hb7
      replace hk:=hk.trans (hs7.mono hk.size)
      go_wp2_with (fail)
      refine (hRt _).mono ?_
      rintro e w8 ⟨rfl,hb8⟩
      have hs8 : Below w7.heap.size w7 w8:=two_steps (by repeat (first | exact Below.refl _ _ | refine Below.setCell ?_ (by simp <;> omega) _ | refine Below.alloc ?_ (by simp <;> omega) _ | refine Below.drew ?_)) hb8
      have hw8 : Below w.heap.size w w8:=hw7.trans (hs8.mono hw7.size)
      have xy : w8.heap[w7.heap.size]? = some (.cells #[.string y1.f0,.int .i64 y1.f1,.slice Xq y1.f2.length dq,.string y1.f3] 41 (0,0)):=blk_below (blk_new w7 _) hb8
      clear hb8
      obtain ⟨yc0,yc1,yc2,yc3⟩:=cells4 xy
      replace hk:=hk.trans (hs8.mono hk.size)
      go_wp2_with (fail)
      refine (hF3.out _ (by repeat (first | with_reducible exact hk | refine Below.setCell ?_ (by have:=hk.size; simp <;> omega) _ | refine Below.alloc ?_ (by have:=hk.size; simp <;> omega) _ | refine Below.drew ?_))).mono ?_
      rintro e w9 ⟨X3,d3,rfl,hb9⟩
      clear yc0 yc1 yc2 yc3
      have hs9 : Below w8.heap.size w8 w9:=two_steps (by repeat (first | exact Below.refl _ _ | refine Below.setCell ?_ (by simp <;> omega) _ | refine Below.alloc ?_ (by simp <;> omega) _ | refine Below.drew ?_)) hb9
      have hw9 : Below w.heap.size w w9:=hw8.trans (hs9.mono hw8.size)
      have xy:=blk_below xy hs9
      clear hb9
      obtain ⟨yc0,yc1,yc2,yc3⟩:=cells4 xy
      replace hk:=hk.trans (hs9.mono hk.size)
      go_wp2_with (fail)
      refine (hA2.out _ (by repeat (first | with_reducible exact hk | refine Below.setCell ?_ (by have:=hk.size; simp <;> omega) _ | refine Below.alloc ?_ (by have:=hk.size; simp <;> omega) _ | refine Below.drew ?_))).mono ?_
      rintro e w10 ⟨S,rfl,hb10,-,hSn⟩
      clear yc0 yc1 yc2 yc3
      have hs10 : Below w9.heap.size w9 w10:=two_steps (by repeat (first | exact Below.refl _ _ | refine Below.setCell ?_ (by simp <;> omega) _ | refine Below.alloc ?_ (by simp <;> omega) _ | refine Below.drew ?_)) hb10
      have hw10 : Below w.heap.size w w10:=hw9.trans (hs10.mono hw9.size)
      have xy:=blk_below xy hs10
      have xz : w10.heap[w9.heap.size]? = some (.cells #[.string s,.int .i64 1,.slice X3 0 d3,.string ⟨#[]⟩] 41 (0,0)):=blk_below (blk_new w9 _) hb10
      have hS':=hSn (by decide)
      subst hS'
      clear hSn
      clear hb10
      obtain ⟨yc0,yc1,yc2,yc3⟩:=cells4 xy
      obtain ⟨zc0,zc1,zc2,zc3⟩:=cells4 xz
      replace hk:=hk.trans (hs10.mono hk.size)
      go_wp2_with (fail)
      refine (hA3.out _ (by repeat (first | with_reducible exact hk | refine Below.setCell ?_ (by have:=hk.size; simp <;> omega) _ | refine Below.alloc ?_ (by have:=hk.size; simp <;> omega) _ | refine Below.drew ?_))).mono ?_
      rintro e w11 ⟨S,rfl,hb11,hS,-⟩
      clear yc0 yc1 yc2 yc3 zc0 zc1 zc2 zc3
      have hs11 : Below w10.heap.size w10 w11:=two_steps (by repeat (first | exact Below.refl _ _ | refine Below.setCell ?_ (by simp <;> omega) _ | refine Below.alloc ?_ (by simp <;> omega) _ | refine Below.drew ?_)) hb11
      have hw11 : Below w.heap.size w w11:=hw10.trans (hs11.mono hw10.size)
      have xy:=blk_below xy hs11
      have xz:=blk_below xz hs11
      obtain ⟨A7,c7,rfl,hl7,hC7⟩:=hS (by trivial)
      clear hS
      replace hC7:=Aside0.mk hC7
      replace hl7:=Aside0.mk hl7
      clear hb11
      obtain ⟨yc0,yc1,yc2,yc3⟩:=cells4 xy
      obtain ⟨zc0,zc1,zc2,zc3⟩:=cells4 xz
      replace hk:=hk.trans (hs11.mono hk.size)
      go_wp2_with (fail)
      refine (sameE_at l hn.out hx.out A7 c7 A c _ (Kd.C_below hC7.out (Below.refl _ _)) hl7.out (Kd.C_below hr.out (by repeat (first | with_reducible exact hw11 | refine Below.setCell ?_ (by have:=hw11.size; simp <;> omega) _ | refine Below.alloc ?_ (by have:=hw11.size; simp <;> omega) _ | refine Below.drew ?_))) hc.out).mono ?_
      rintro e w12 ⟨rfl,hb12⟩
      clear yc0 yc1 yc2 yc3 zc0 zc1 zc2 zc3
      have hs12 : Below w11.heap.size w11 w12:=two_steps (by repeat (first | exact Below.refl _ _ | refine Below.setCell ?_ (by simp <;> omega) _ | refine Below.alloc ?_ (by simp <;> omega) _ | refine Below.drew ?_)) hb12
      have hw12 : Below w.heap.size w w12:=hw11.trans (hs12.mono hw11.size)
      have xy:=blk_below xy hs12
      have xz:=blk_below xz hs12
      clear hb12
      obtain ⟨yc0,yc1,yc2,yc3⟩:=cells4 xy
      obtain ⟨zc0,zc1,zc2,zc3⟩:=cells4 xz
      go_wp2
      go_ret
      exact ⟨rfl,(by repeat (first | with_reducible exact hw12 | refine Below.setCell ?_ (by have:=hw12.size; simp <;> omega) _ | refine Below.alloc ?_ (by have:=hw12.size; simp <;> omega) _ | refine Below.drew ?_))⟩
     ·rw [mp] at hPa
      have hFq:=fun U h => hFp u U h
      rw [mi] at hFq
      obtain ⟨y1,hy1⟩ : ∃ y,thingAt l u = y:=⟨_,rfl⟩
      rw [hy1] at hFq mf
      rw [mf] at hFq
      clear hFp hy1 mp mi mf
      dsimp only [Option.getD,Option.isSome] at hPa
      go_wp2_with (fail)
      refine (hF _ (by repeat (first | with_reducible exact hw4 | refine Below.setCell ?_ (by have:=hw4.size; simp <;> omega) _ | refine Below.alloc ?_ (by have:=hw4.size; simp <;> omega) _ | refine Below.drew ?_))).mono ?_
      rintro e w5 ⟨X2,d2,rfl,hd2,hX2,hb5⟩
      have hs5 : Below w4.heap.size w4 w5:=two_steps (by repeat (first | exact Below.refl _ _ | refine Below.setCell ?_ (by simp <;> omega) _ | refine Below.alloc ?_ (by simp <;> omega) _ | refine Below.drew ?_)) hb5
      have hw5 : Below w.heap.size w w5:=hw4.trans (hs5.mono hw4.size)
      clear hd2 hX2
      clear hb5
      replace hk:=hk.trans (hs5.mono hk.size)
      go_wp2_with (fail)
      refine (hPa _).mono ?_
      rintro e w6 ⟨rfl,hb6⟩
      have hs6 : Below w5.heap.size w5 w6:=two_steps (by repeat (first | exact Below.refl _ _ | refine Below.setCell ?_ (by simp <;> omega) _ | refine Below.alloc ?_ (by simp <;> omega) _ | refine Below.drew ?_)) hb6
      have hw6 : Below w.heap.size w w6:=hw5.trans (hs6.mono hw5.size)
      clear hb6
      replace hk:=hk.trans (hs6.mono hk.size)
      go_wp2_with (fail)
      refine (hFq _ (by repeat (first | with_reducible exact hw6 | refine Below.setCell ?_ (by have:=hw6.size; simp <;> omega) _ | refine Below.alloc ?_ (by have:=hw6.size; simp <;> omega) _ | refine Below.drew ?_))).mono ?_
      rintro e w7 ⟨Xq,dq,rfl,hd2,hX2,hb7⟩
      have hs7 : Below w6.heap.size w6 w7:=two_steps (by repeat (first | exact Below.refl _ _ | refine Below.setCell ?_ (by simp <;> omega) _ | refine Below.alloc ?_ (by simp <;> omega) _ | refine Below.drew ?_)) hb7
      have hw7 : Below w.heap.size w w7:=hw6.trans (hs7.mono hw6.size)
      clear hd2 hX2
      clear hb7
      replace hk:=hk.trans (hs7.mono hk.size)
      go_wp2_with (fail)
      refine (hRt _).mono ?_
      rintro e w8 ⟨rfl,hb8⟩
      have hs8 : Below w7.heap.size w7 w8:=two_steps (by repeat (first | exact Below.refl _ _ | refine Below.setCell ?_ (by simp <;> omega) _ | refine Below.alloc ?_ (by simp <;> omega) _ | refine Below.drew ?_)) hb8
      have hw8 : Below w.heap.size w w8:=hw7.trans (hs8.mono hw7.size)
      have xy : w8.heap[w7.heap.size]? = some (.cells #[.string y1.f0,.int .i64 1,.slice Xq y1.f2.length dq,.string y1.f3] 41 (0,0)):=blk_below (blk_new w7 _) hb8
      clear hb8
      obtain ⟨yc0,yc1,yc2,yc3⟩:=cells4 xy
      replace hk:=hk.trans (hs8.mono hk.size)
      go_wp2_with (fail)
      refine (hF3.out _ (by repeat (first | with_reducible exact hk | refine Below.setCell ?_ (by have:=hk.size; simp <;> omega) _ | refine Below.alloc ?_ (by have:=hk.size; simp <;> omega) _ | refine Below.drew ?_))).mono ?_
      rintro e w9 ⟨X3,d3,rfl,hb9⟩
      clear yc0 yc1 yc2 yc3
      have hs9 : Below w8.heap.size w8 w9:=two_steps (by repeat (first | exact Below.refl _ _ | refine Below.setCell ?_ (by simp <;> omega) _ | refine Below.alloc ?_ (by simp <;> omega) _ | refine Below.drew ?_)) hb9
      have hw9 : Below w.heap.size w w9:=hw8.trans (hs9.mono hw8.size)
      have xy:=blk_below xy hs9
      clear hb9
      obtain ⟨yc0,yc1,yc2,yc3⟩:=cells4 xy
      replace hk:=hk.trans (hs9.mono hk.size)
      go_wp2_with (fail)
      refine (hA2.out _ (by repeat (first | with_reducible exact hk | refine Below.setCell ?_ (by have:=hk.size; simp <;> omega) _ | refine Below.alloc ?_ (by have:=hk.size; simp <;> omega) _ | refine Below.drew ?_))).mono ?_
      rintro e w10 ⟨S,rfl,hb10,-,hSn⟩
      clear yc0 yc1 yc2 yc3
      have hs10 : Below w9.heap.size w9 w10:=two_steps (by repeat (first | exact Below.refl _ _ | refine Below.setCell ?_ (by simp <;> omega) _ | refine Below.alloc ?_ (by simp <;> omega) _ | refine Below.drew ?_)) hb10
      have hw10 : Below w.heap.size w w10:=hw9.trans (hs10.mono hw9.size)
      have xy:=blk_below xy hs10
      have xz : w10.heap[w9.heap.size]? = some (.cells #[.string s,.int .i64 1,.slice X3 0 d3,.string ⟨#[]⟩] 41 (0,0)):=blk_below (blk_new w9 _) hb10
      have hS':=hSn (by decide)
      subst hS'
      clear hSn
      clear hb10
      obtain ⟨yc0,yc1,yc2,yc3⟩:=cells4 xy
      obtain ⟨zc0,zc1,zc2,zc3⟩:=cells4 xz
      replace hk:=hk.trans (hs10.mono hk.size)
      go_wp2_with (fail)
      refine (hA3.out _ (by repeat (first | with_reducible exact hk | refine Below.setCell ?_ (by have:=hk.size; simp <;> omega) _ | refine Below.alloc ?_ (by have:=hk.size; simp <;> omega) _ | refine Below.drew ?_))).mono ?_
      rintro e w11 ⟨S,rfl,hb11,hS,-⟩
      clear yc0 yc1 yc2 yc3 zc0 zc1 zc2 zc3
      have hs11 : Below w10.heap.size w10 w11:=two_steps (by repeat (first | exact Below.refl _ _ | refine Below.setCell ?_ (by simp <;> omega) _ | refine Below.alloc ?_ (by simp <;> omega) _ | refine Below.drew ?_)) hb11
      have hw11 : Below w.heap.size w w11:=hw10.trans (hs11.mono hw10.size)
      have xy:=blk_below xy hs11
      have xz:=blk_below xz hs11
      obtain ⟨A7,c7,rfl,hl7,hC7⟩:=hS (by trivial)
      clear hS
      replace hC7:=Aside0.mk hC7
      replace hl7:=Aside0.mk hl7
      clear hb11
      obtain ⟨yc0,yc1,yc2,yc3⟩:=cells4 xy
      obtain ⟨zc0,zc1,zc2,zc3⟩:=cells4 xz
      replace hk:=hk.trans (hs11.mono hk.size)
      go_wp2_with (fail)
      refine (sameE_at l hn.out hx.out A7 c7 A c _ (Kd.C_below hC7.out (Below.refl _ _)) hl7.out (Kd.C_below hr.out (by repeat (first | with_reducible exact hw11 | refine Below.setCell ?_ (by have:=hw11.size; simp <;> omega) _ | refine Below.alloc ?_ (by have:=hw11.size; simp <;> omega) _ | refine Below.drew ?_))) hc.out).mono ?_
      rintro e w12 ⟨rfl,hb12⟩
      clear yc0 yc1 yc2 yc3 zc0 zc1 zc2 zc3
      have hs12 : Below w11.heap.size w11 w12:=two_steps (by repeat (first | exact Below.refl _ _ | refine Below.setCell ?_ (by simp <;> omega) _ | refine Below.alloc ?_ (by simp <;> omega) _ | refine Below.drew ?_)) hb12
      have hw12 : Below w.heap.size w w12:=hw11.trans (hs12.mono hw11.size)
      have xy:=blk_below xy hs12
      have xz:=blk_below xz hs12
      clear hb12
      obtain ⟨yc0,yc1,yc2,yc3⟩:=cells4 xy
      obtain ⟨zc0,zc1,zc2,zc3⟩:=cells4 xz
      go_wp2
      go_ret
      exact ⟨rfl,(by repeat (first | with_reducible exact hw12 | refine Below.setCell ?_ (by have:=hw12.size; simp <;> omega) _ | refine Below.alloc ?_ (by have:=hw12.size; simp <;> omega) _ | refine Below.drew ?_))⟩
    ·have hz : E ≠ 0:=fun k => hmay (hz0.out.1 k)
     have hmf:=may_false hmay
     have hSn0 : True:=trivial
     obtain ⟨th,hth⟩ : ∃ th,(findV l s).isSome = th:=⟨_,rfl⟩
     rw [hth] at hF hmf
     obtain ⟨rr,hrr⟩ : ∃ rr,rightB s = rr:=⟨_,rfl⟩
     rw [hrr] at hRt hmf
     clear hth hrr hmay hz0 hal hbM hTM hSn0
     go_wp2_with (fail)
     refine (hA.out _ (by repeat (first | with_reducible exact hw3 | refine Below.setCell ?_ (by have:=hw3.size; simp <;> omega) _ | refine Below.alloc ?_ (by have:=hw3.size; simp <;> omega) _ | refine Below.drew ?_))).mono ?_
     rintro e w4 ⟨S,rfl,hb4,-,hSn⟩
     have hs4 : Below w3.heap.size w3 w4:=two_steps (by repeat (first | exact Below.refl _ _ | refine Below.setCell ?_ (by simp <;> omega) _ | refine Below.alloc ?_ (by simp <;> omega) _ | refine Below.drew ?_)) hb4
     have hw4 : Below w.heap.size w w4:=hw3.trans (hs4.mono hw3.size)
     have hS':=hSn hz
     subst hS'
     clear hSn
     clear hb4
     have hne : (E == 0) = false:=by rw [beq_eq_false_iff_ne]; exact hz
     have hne2 : (E != 0) = true:=by rw [bne_iff_ne]; exact hz
     clear hz
     obtain ⟨pv,hpv⟩ : ∃ pv,parentV s = pv:=⟨_,rfl⟩
     rw [hpv] at hPa hmf
     clear hpv
     have hFq:=fun U h => hFp (pv.getD ⟨#[]⟩) U h
     obtain ⟨y1,hy1⟩ : ∃ y,thingAt l (pv.getD ⟨#[]⟩) = y:=⟨_,rfl⟩
     obtain ⟨i1,hi1⟩ : ∃ i,(findV l (pv.getD ⟨#[]⟩)).isSome = i:=⟨_,rfl⟩
     rw [hy1,hi1] at hFq
     have hcase : rr = false ∨ th = true ∨ pv.isSome = true ∧ (i1 = false ∨ i1 = true ∧ (y1.f1 == 1) = false):=by
      rcases hmf with h | h | ⟨u,rfl,h⟩
      ·exact .inl h
      ·exact .inr (.inl h)
      ·refine .inr (.inr ⟨rfl,?_⟩)
       rw [← hi1,← hy1]
       exact h
     obtain ⟨pq,hpq⟩ : ∃ pq,pv.getD ⟨#[]⟩ = pq:=⟨_,rfl⟩
     obtain ⟨hs2,hhs2⟩ : ∃ h,pv.isSome = h:=⟨_,rfl⟩
     rw [hpq,hhs2] at hPa
     rw [hpq] at hFq
     rw [hhs2] at hcase
     clear hFp hy1 hi1 hpq hhs2 hmf
     cases rr with
     | false =>
      clear hcase
      go_wp2_with (fail)
      refine (hF _ (by repeat (first | with_reducible exact hw4 | refine Below.setCell ?_ (by have:=hw4.size; simp <;> omega) _ | refine Below.alloc ?_ (by have:=hw4.size; simp <;> omega) _ | refine Below.drew ?_))).mono ?_
      rintro e w5 ⟨X2,d2,rfl,hd2,hX2,hb5⟩
      have hs5 : Below w4.heap.size w4 w5:=two_steps (by repeat (first | exact Below.refl _ _ | refine Below.setCell ?_ (by simp <;> omega) _ | refine Below.alloc ?_ (by simp <;> omega) _ | refine Below.drew ?_)) hb5
      have hw5 : Below w.heap.size w w5:=hw4.trans (hs5.mono hw4.size)
      clear hd2 hX2
      clear hb5
      go_wp2_with (fail)
      refine (hPa _).mono ?_
      rintro e w6 ⟨rfl,hb6⟩
      have hs6 : Below w5.heap.size w5 w6:=two_steps (by repeat (first | exact Below.refl _ _ | refine Below.setCell ?_ (by simp <;> omega) _ | refine Below.alloc ?_ (by simp <;> omega) _ | refine Below.drew ?_)) hb6
      have hw6 : Below w.heap.size w w6:=hw5.trans (hs6.mono hw5.size)
      clear hb6
      go_wp2_with (fail)
      refine (hFq _ (by repeat (first | with_reducible exact hw6 | refine Below.setCell ?_ (by have:=hw6.size; simp <;> omega) _ | refine Below.alloc ?_ (by have:=hw6.size; simp <;> omega) _ | refine Below.drew ?_))).mono ?_
      rintro e w7 ⟨Xq,dq,rfl,hd2,hX2,hb7⟩
      have hs7 : Below w6.heap.size w6 w7:=two_steps (by repeat (first | exact Below.refl _ _ | refine Below.setCell ?_ (by simp <;> omega) _ | refine Below.alloc ?_ (by simp <;> omega) _ | refine Below.drew ?_)) hb7
      have hw7 : Below w.heap.size w w7:=hw6.trans (hs7.mono hw6.size)
      clear hd2 hX2
      clear hb7
      go_wp2_with (fail)
      refine (hRt _).mono ?_
      rintro e w8 ⟨rfl,hb8⟩
      have hs8 : Below w7.heap.size w7 w8:=two_steps (by repeat (first | exact Below.refl _ _ | refine Below.setCell ?_ (by simp <;> omega) _ | refine Below.alloc ?_ (by simp <;> omega) _ | refine Below.drew ?_)) hb8
      have hw8 : Below w.heap.size w w8:=hw7.trans (hs8.mono hw7.size)
      have xy : w8.heap[w7.heap.size]? = some (.cells #[.string y1.f0,.int .i64 y1.f1,.slice Xq y1.f2.length dq,.string y1.f3] 41 (0,0)):=blk_below (blk_new w7 _) hb8
      clear hb8
      obtain ⟨yc0,yc1,yc2,yc3⟩:=cells4 xy
      go_wp2
      go_ret
      exact ⟨rfl,(by repeat (first | with_reducible exact hw8 | refine Below.setCell ?_ (by have:=hw8.size; simp <;> omega) _ | refine Below.alloc ?_ (by have:=hw8.size; simp <;> omega) _ | refine Below.drew ?_))⟩
     | true =>
      cases th with
      | true =>
       clear hcase
       go_wp2_with (fail)
       refine (hF _ (by repeat (first | with_reducible exact hw4 | refine Below.setCell ?_ (by have:=hw4.size; simp <;> omega) _ | refine Below.alloc ?_ (by have:=hw4.size; simp <;> omega) _ | refine Below.drew ?_))).mono ?_
       rintro e w5 ⟨X2,d2,rfl,hd2,hX2,hb5⟩
       have hs5 : Below w4.heap.size w4 w5:=two_steps (by repeat (first | exact Below.refl _ _ | refine Below.setCell ?_ (by simp <;> omega) _ | refine Below.alloc ?_ (by simp <;> omega) _ | refine Below.drew ?_)) hb5
       have hw5 : Below w.heap.size w w5:=hw4.trans (hs5.mono hw4.size)
       clear hd2 hX2
       clear hb5
       go_wp2_with (fail)
       refine (hPa _).mono ?_
       rintro e w6 ⟨rfl,hb6⟩
       have hs6 : Below w5.heap.size w5 w6:=two_steps (by repeat (first | exact Below.refl _ _ | refine Below.setCell ?_ (by simp <;> omega) _ | refine Below.alloc ?_ (by simp <;> omega) _ | refine Below.drew ?_)) hb6
       have hw6 : Below w.heap.size w w6:=hw5.trans (hs6.mono hw5.size)
       clear hb6
       go_wp2_with (fail)
       refine (hFq _ (by repeat (first | with_reducible exact hw6 | refine Below.setCell ?_ (by have:=hw6.size; simp <;> omega) _ | refine Below.alloc ?_ (by have:=hw6.size; simp <;> omega) _ | refine Below.drew ?_))).mono ?_
       rintro e w7 ⟨Xq,dq,rfl,hd2,hX2,hb7⟩
       have hs7 : Below w6.heap.size w6 w7:=two_steps (by repeat (first | exact Below.refl _ _ | refine Below.setCell ?_ (by simp <;> omega) _ | refine Below.alloc ?_ (by simp <;> omega) _ | refine Below.drew ?_)) hb7
       have hw7 : Below w.heap.size w w7:=hw6.trans (hs7.mono hw6.size)
       clear hd2 hX2
       clear hb7
       go_wp2_with (fail)
       refine (hRt _).mono ?_
       rintro e w8 ⟨rfl,hb8⟩
       have hs8 : Below w7.heap.size w7 w8:=two_steps (by repeat (first | exact Below.refl _ _ | refine Below.setCell ?_ (by simp <;> omega) _ | refine Below.alloc ?_ (by simp <;> omega) _ | refine Below.drew ?_)) hb8
       have hw8 : Below w.heap.size w w8:=hw7.trans (hs8.mono hw7.size)
       have xy : w8.heap[w7.heap.size]? = some (.cells #[.string y1.f0,.int .i64 y1.f1,.slice Xq y1.f2.length dq,.string y1.f3] 41 (0,0)):=blk_below (blk_new w7 _) hb8
       clear hb8
       obtain ⟨yc0,yc1,yc2,yc3⟩:=cells4 xy
       go_wp2
       go_ret
       exact ⟨rfl,(by repeat (first | with_reducible exact hw8 | refine Below.setCell ?_ (by have:=hw8.size; simp <;> omega) _ | refine Below.alloc ?_ (by have:=hw8.size; simp <;> omega) _ | refine Below.drew ?_))⟩
      | false =>
       rcases hcase with h | h | ⟨rfl,h⟩
       ·cases h
       ·cases h
       ·skip
        rcases h with rfl | ⟨rfl,h⟩
        ·skip
         go_wp2_with (fail)
         refine (hF _ (by repeat (first | with_reducible exact hw4 | refine Below.setCell ?_ (by have:=hw4.size; simp <;> omega) _ | refine Below.alloc ?_ (by have:=hw4.size; simp <;> omega) _ | refine Below.drew ?_))).mono ?_
         rintro e w5 ⟨X2,d2,rfl,hd2,hX2,hb5⟩
         have hs5 : Below w4.heap.size w4 w5:=two_steps (by repeat (first | exact Below.refl _ _ | refine Below.setCell ?_ (by simp <;> omega) _ | refine Below.alloc ?_ (by simp <;> omega) _ | refine Below.drew ?_)) hb5
         have hw5 : Below w.heap.size w w5:=hw4.trans (hs5.mono hw4.size)
         clear hd2 hX2
         clear hb5
         go_wp2_with (fail)
         refine (hPa _).mono ?_
         rintro e w6 ⟨rfl,hb6⟩
         have hs6 : Below w5.heap.size w5 w6:=two_steps (by repeat (first | exact Below.refl _ _ | refine Below.setCell ?_ (by simp <;> omega) _ | refine Below.alloc ?_ (by simp <;> omega) _ | refine Below.drew ?_)) hb6
         have hw6 : Below w.heap.size w w6:=hw5.trans (hs6.mono hw5.size)
         clear hb6
         go_wp2_with (fail)
         refine (hFq _ (by repeat (first | with_reducible exact hw6 | refine Below.setCell ?_ (by have:=hw6.size; simp <;> omega) _ | refine Below.alloc ?_ (by have:=hw6.size; simp <;> omega) _ | refine Below.drew ?_))).mono ?_
         rintro e w7 ⟨Xq,dq,rfl,hd2,hX2,hb7⟩
         have hs7 : Below w6.heap.size w6 w7:=two_steps (by repeat (first | exact Below.refl _ _ | refine Below.setCell ?_ (by simp <;> omega) _ | refine Below.alloc ?_ (by simp <;> omega) _ | refine Below.drew ?_)) hb7
         have hw7 : Below w.heap.size w w7:=hw6.trans (hs7.mono hw6.size)
         clear hd2 hX2
         clear hb7
         go_wp2_with (fail)
         refine (hRt _).mono ?_
         rintro e w8 ⟨rfl,hb8⟩
         have hs8 : Below w7.heap.size w7 w8:=two_steps (by repeat (first | exact Below.refl _ _ | refine Below.setCell ?_ (by simp <;> omega) _ | refine Below.alloc ?_ (by simp <;> omega) _ | refine Below.drew ?_)) hb8
         have hw8 : Below w.heap.size w w8:=hw7.trans (hs8.mono hw7.size)
         have xy : w8.heap[w7.heap.size]? = some (.cells #[.string y1.f0,.int .i64 y1.f1,.slice Xq y1.f2.length dq,.string y1.f3] 41 (0,0)):=blk_below (blk_new w7 _) hb8
         clear hb8
         obtain ⟨yc0,yc1,yc2,yc3⟩:=cells4 xy
         go_wp2
         go_ret
         exact ⟨rfl,(by repeat (first | with_reducible exact hw8 | refine Below.setCell ?_ (by have:=hw8.size; simp <;> omega) _ | refine Below.alloc ?_ (by have:=hw8.size; simp <;> omega) _ | refine Below.drew ?_))⟩
        ·skip
         go_wp2_with (fail)
         refine (hF _ (by repeat (first | with_reducible exact hw4 | refine Below.setCell ?_ (by have:=hw4.size; simp <;> omega) _ | refine Below.alloc ?_ (by have:=hw4.size; simp <;> omega) _ | refine Below.drew ?_))).mono ?_
         rintro e w5 ⟨X2,d2,rfl,hd2,hX2,hb5⟩
         have hs5 : Below w4.heap.size w4 w5:=two_steps (by repeat (first | exact Below.refl _ _ | refine Below.setCell ?_ (by simp <;> omega) _ | refine Below.alloc ?_ (by simp <;> omega) _ | refine Below.drew ?_)) hb5
         have hw5 : Below w.heap.size w w5:=hw4.trans (hs5.mono hw4.size)
         clear hd2 hX2
         clear hb5
         go_wp2_with (fail)
         refine (hPa _).mono ?_
         rintro e w6 ⟨rfl,hb6⟩
         have hs6 : Below w5.heap.size w5 w6:=two_steps (by repeat (first | exact Below.refl _ _ | refine Below.setCell ?_ (by simp <;> omega) _ | refine Below.alloc ?_ (by simp <;> omega) _ | refine Below.drew ?_)) hb6
         have hw6 : Below w.heap.size w w6:=hw5.trans (hs6.mono hw5.size)
         clear hb6
         go_wp2_with (fail)
         refine (hFq _ (by repeat (first | with_reducible exact hw6 | refine Below.setCell ?_ (by have:=hw6.size; simp <;> omega) _ | refine Below.alloc ?_ (by have:=hw6.size; simp <;> omega) _ | refine Below.drew ?_))).mono ?_
         rintro e w7 ⟨Xq,dq,rfl,hd2,hX2,hb7⟩
         have hs7 : Below w6.heap.size w6 w7:=two_steps (by repeat (first | exact Below.refl _ _ | refine Below.setCell ?_ (by simp <;> omega) _ | refine Below.alloc ?_ (by simp <;> omega) _ | refine Below.drew ?_)) hb7
         have hw7 : Below w.heap.size w w7:=hw6.trans (hs7.mono hw6.size)
         clear hd2 hX2
         clear hb7
         go_wp2_with (fail)
         refine (hRt _).mono ?_
         rintro e w8 ⟨rfl,hb8⟩
         have hs8 : Below w7.heap.size w7 w8:=two_steps (by repeat (first | exact Below.refl _ _ | refine Below.setCell ?_ (by simp <;> omega) _ | refine Below.alloc ?_ (by simp <;> omega) _ | refine Below.drew ?_)) hb8
         have hw8 : Below w.heap.size w w8:=hw7.trans (hs8.mono hw7.size)
         have xy : w8.heap[w7.heap.size]? = some (.cells #[.string y1.f0,.int .i64 y1.f1,.slice Xq y1.f2.length dq,.string y1.f3] 41 (0,0)):=blk_below (blk_new w7 _) hb8
         clear hb8
         obtain ⟨yc0,yc1,yc2,yc3⟩:=cells4 xy
         go_wp2
         go_ret
         exact ⟨rfl,(by repeat (first | with_reducible exact hw8 | refine Below.setCell ?_ (by have:=hw8.size; simp <;> omega) _ | refine Below.alloc ?_ (by have:=hw8.size; simp <;> omega) _ | refine Below.drew ?_))⟩
  ·skip
   have hb1 : decide ((s.size : Int) > 1000) = true:=decide_eq_true (by omega)
   have hb2 : decide ((1000 : Int) < (s.size : Int)) = true:=decide_eq_true (by omega)
   have hb3 : decide (1000 < s.size) = true:=decide_eq_true (by omega)
   have hb4 : (1000 < s.size) = True:=eq_true (by omega)
   replace hs:=Aside0.mk hs
   go_wp2
   go_ret
   exact ⟨rfl,(by repeat (first | with_reducible exact hw2 | refine Below.setCell ?_ (by have:=hw2.size; simp <;> omega) _ | refine Below.alloc ?_ (by have:=hw2.size; simp <;> omega) _ | refine Below.drew ?_))⟩
set_option maxHeartbeats 4000000 in
set_option maxRecDepth 1000000 in
theorem adds1_calls (l : List S41) (A : Option Addr) (c : Nat) (s : ByteArray) (a : Int) (w : World) (hr : Kd.C k41 w A l.length l) (hc : l.length ≤ c) (hn : l.length ≤ 140737488355328) (hx : ∀ x ∈ l,x.f2.length ≤ 140737488355328) (ha : a.tmod 3 = 1) :
  Calls Tryz.prog 7 #[.slice A l.length c,.string s,.int .u8 a] w fun e w' => e = .returned (.bool true) ∧ Below w.heap.size w w':=by
 obtain ⟨g,hgs,hG⟩:=G_at l A c w hr hc hn hx
 replace hG:=Aside0.mk hG
 replace hgs:=Aside0.mk hgs
 replace hn:=Aside0.mk hn
 replace hx:=Aside0.mk hx
 replace hr:=Aside0.mk hr
 replace hc:=Aside0.mk hc
 go_enter Tryz.func7,Tryz.ntmps7
 go_wp2_with (fail)
 refine (head08_calls _).mono ?_
 rintro e w1 ⟨rfl,hb1⟩
 have hs1 : Below w.heap.size w w1:=two_steps (by repeat (first | exact Below.refl _ _ | refine Below.setCell ?_ (by simp <;> omega) _ | refine Below.alloc ?_ (by simp <;> omega) _ | refine Below.drew ?_)) hb1
 have hw1 : Below w.heap.size w w1:=(Below.refl w.heap.size w).trans (hs1.mono (Below.refl w.heap.size w).size)
 clear hb1
 go_wp2_with (fail)
 refine (hG.out _ (by repeat (first | with_reducible exact hw1 | refine Below.setCell ?_ (by have:=hw1.size; simp <;> omega) _ | refine Below.alloc ?_ (by have:=hw1.size; simp <;> omega) _ | refine Below.drew ?_))).mono ?_
 rintro e w2 ⟨rfl,hb2⟩
 have hs2 : Below w1.heap.size w1 w2:=two_steps (by repeat (first | exact Below.refl _ _ | refine Below.setCell ?_ (by simp <;> omega) _ | refine Below.alloc ?_ (by simp <;> omega) _ | refine Below.drew ?_)) hb2
 have hw2 : Below w.heap.size w w2:=hw1.trans (hs2.mono hw1.size)
 clear hb2
 cases g with
 | true =>
  go_wp2
  go_ret
  exact ⟨rfl,(by repeat (first | with_reducible exact hw2 | refine Below.setCell ?_ (by have:=hw2.size; simp <;> omega) _ | refine Below.alloc ?_ (by have:=hw2.size; simp <;> omega) _ | refine Below.drew ?_))⟩
 | false =>
  have hsm:=Aside0.mk (hgs.out (by trivial))
  have hT:=Aside0.mk (TR_at l A c w hr.out hc.out hsm.out.2)
  by_cases hs : s.size ≤ 1000
  ·skip
   have hb1 : decide ((s.size : Int) > 1000) = false:=decide_eq_false (by omega)
   have hb2 : decide ((1000 : Int) < (s.size : Int)) = false:=decide_eq_false (by omega)
   have hb3 : decide (1000 < s.size) = false:=decide_eq_false (by omega)
   have hb4 : (1000 < s.size) = False:=eq_false (by omega)
   replace hs:=Aside0.mk hs
   cases ht : treeB l with
   | false =>
    rw [ht] at hT
    go_wp2_with (fail)
    refine (hT.out _ (by repeat (first | with_reducible exact hw2 | refine Below.setCell ?_ (by have:=hw2.size; simp <;> omega) _ | refine Below.alloc ?_ (by have:=hw2.size; simp <;> omega) _ | refine Below.drew ?_))).mono ?_
    rintro e w3 ⟨rfl,hb3⟩
    have hs3 : Below w2.heap.size w2 w3:=two_steps (by repeat (first | exact Below.refl _ _ | refine Below.setCell ?_ (by simp <;> omega) _ | refine Below.alloc ?_ (by simp <;> omega) _ | refine Below.drew ?_)) hb3
    have hw3 : Below w.heap.size w w3:=hw2.trans (hs3.mono hw2.size)
    clear hb3
    go_wp2
    go_ret
    exact ⟨rfl,(by repeat (first | with_reducible exact hw3 | refine Below.setCell ?_ (by have:=hw3.size; simp <;> omega) _ | refine Below.alloc ?_ (by have:=hw3.size; simp <;> omega) _ | refine Below.drew ?_))⟩
   | true =>
    rw [ht] at hT
    replace ht:=Aside0.mk ht
    go_wp2_with (fail)
    refine (hT.out _ (by repeat (first | with_reducible exact hw2 | refine Below.setCell ?_ (by have:=hw2.size; simp <;> omega) _ | refine Below.alloc ?_ (by have:=hw2.size; simp <;> omega) _ | refine Below.drew ?_))).mono ?_
    rintro e w3 ⟨rfl,hb3⟩
    have hs3 : Below w2.heap.size w2 w3:=two_steps (by repeat (first | exact Below.refl _ _ | refine Below.setCell ?_ (by simp <;> omega) _ | refine Below.alloc ?_ (by simp <;> omega) _ | refine Below.drew ?_)) hb3
    have hw3 : Below w.heap.size w w3:=hw2.trans (hs3.mono hw2.size)
    clear hb3
    have hl8 : l.length < 800:=hsm.out.1
    have hge : decide ((l.length : Int) ≥ 1024) = false:=decide_eq_false (by omega)
    have hge2 : decide ((1024 : Int) ≤ (l.length : Int)) = false:=decide_eq_false (by omega)
    have hge3 : decide (1024 ≤ l.length) = false:=decide_eq_false (by omega)
    have hge4 : (1024 ≤ l.length) = False:=eq_false (by omega)
    have hA:=fun U h => AP_at 4000 3 s l A c w hr.out (small_bnd hsm.out.2) (by decide) (by have:=hs.out; omega) U h
    have hz0:=adds_zero (tree_iff.1 ht.out) (show l.length < 1024 by omega) (k:=3) (by decide) s
    have hal:=fun h => adds_laws (l:=l) (k:=3) (path:=s) (by decide) h
    have hbM:=fun h => bnd_do (small_bnd hsm.out.2) (addQ (k:=3) (s:=s) (by have:=hs.out; omega)) (l:=l) h
    have hTM:=fun h => apply_tree (l:=l) (p:=addP 3 s) h
    obtain ⟨E,hE⟩ : ∃ E,applyE l (addP 3 s) = E:=⟨_,rfl⟩
    obtain ⟨M,hM⟩ : ∃ M,doL l (addP 3 s) = M:=⟨_,rfl⟩
    rw [hE,hM] at hA hal hbM hTM
    rw [hE] at hz0
    replace hA:=Aside0.mk hA
    replace hal:=Aside0.mk hal
    replace hbM:=Aside0.mk hbM
    replace hTM:=Aside0.mk hTM
    replace hz0:=Aside0.mk hz0
    clear hE hM hl8
    have hF:=fun U h => find_at l A c s w hr.out hc.out hn.out U h
    obtain ⟨y,hy⟩ : ∃ y,thingAt l s = y:=⟨_,rfl⟩
    rw [hy] at hF
    clear hy
    have hPa:=fun U => parentR_at s (by have:=hs.out; omega) U
    have hFp:=fun p U h => find_at l A c p w hr.out hc.out hn.out U h
    have hRt:=fun U => rightR_at s (by have:=hs.out; omega) U
    by_cases hmay : mayB l s = true
    ·obtain ⟨mr,mt,mp⟩:=may_true hmay
     have hE0:=hz0.out.2 hmay
     subst hE0
     rw [mr] at hRt
     rw [mt] at hF
     clear mr mt hmay hz0
     go_wp2_with (fail)
     refine (hA.out _ (by repeat (first | with_reducible exact hw3 | refine Below.setCell ?_ (by have:=hw3.size; simp <;> omega) _ | refine Below.alloc ?_ (by have:=hw3.size; simp <;> omega) _ | refine Below.drew ?_))).mono ?_
     rintro e w4 ⟨S,rfl,hb4,hS,-⟩
     have hs4 : Below w3.heap.size w3 w4:=two_steps (by repeat (first | exact Below.refl _ _ | refine Below.setCell ?_ (by simp <;> omega) _ | refine Below.alloc ?_ (by simp <;> omega) _ | refine Below.drew ?_)) hb4
     have hw4 : Below w.heap.size w w4:=hw3.trans (hs4.mono hw3.size)
     obtain ⟨A4,c4,rfl,hl4,hC4⟩:=hS (by trivial)
     clear hS
     replace hC4:=Aside0.mk hC4
     replace hl4:=Aside0.mk hl4
     clear hb4
     obtain ⟨m1,m2,m3,m4⟩:=hal.out (by trivial)
     replace hbM:=Aside0.mk (hbM.out (by trivial))
     have hMn : Aside0 (M.length ≤ 140737488355328):=⟨by have:=(hTM.out (by trivial)).n; omega⟩
     have hme : thingAt M s = newE (addP 3 s):=by unfold thingAt; rw [m1]; rfl
     have hF3 : ∀ U,Below w4.heap.size w4 U → Calls Tryz.prog 33 #[.slice A4 M.length c4,.string s] U fun e w' => ∃ X d,e = .returned (.tuple #[.agg #[.string s,.int .i64 2,.slice X 0 d,.string ⟨#[]⟩],.bool true]) ∧ Below U.heap.size U w':=fun U h => by
      have h3:=find_at M A4 c4 s w4 hC4.out hl4.out hMn.out U h
      rw [hme,m1] at h3
      refine h3.mono ?_
      rintro e w' ⟨X,d,rfl,-,-,hb⟩
      exact ⟨X,d,rfl,hb⟩
     have hA2:=fun U h => AP_at 8000 3 s M A4 c4 w4 hC4.out hbM.out (by decide) (by have:=hs.out; omega) U h
     have hA3:=fun U h => AP_at 8000 4 s M A4 c4 w4 hC4.out hbM.out (by decide) (by have:=hs.out; omega) U h
     rw [show (3 : Int) + 1 = 4 from rfl] at m3 m4
     rw [m2] at hA2
     rw [m3,m4] at hA3
     replace hF3:=Aside0.mk hF3
     replace hA2:=Aside0.mk hA2
     replace hA3:=Aside0.mk hA3
     clear m1 m2 m3 m4 hme hal hTM
     have hk : Below w4.heap.size w4 w4:=Below.refl _ _
     rcases mp with mp | ⟨u,mp,mi,mf⟩
     ·rw [mp] at hPa
      have hFq:=fun U h => hFp ⟨#[]⟩ U h
      obtain ⟨y1,hy1⟩ : ∃ y,thingAt l ⟨#[]⟩ = y:=⟨_,rfl⟩
      obtain ⟨i1,hi1⟩ : ∃ i,(findV l ⟨#[]⟩).isSome = i:=⟨_,rfl⟩
      rw [hy1,hi1] at hFq
      clear hFp hy1 hi1 mp
      dsimp only [Option.getD,Option.isSome] at hPa
      go_wp2_with (fail)
      refine (hF _ (by repeat (first | with_reducible exact hw4 | refine Below.setCell ?_ (by have:=hw4.size; simp <;> omega) _ | refine Below.alloc ?_ (by have:=hw4.size; simp <;> omega) _ | refine Below.drew ?_))).mono ?_
      rintro e w5 ⟨X2,d2,rfl,hd2,hX2,hb5⟩
      have hs5 : Below w4.heap.size w4 w5:=two_steps (by repeat (first | exact Below.refl _ _ | refine Below.setCell ?_ (by simp <;> omega) _ | refine Below.alloc ?_ (by simp <;> omega) _ | refine Below.drew ?_)) hb5
      have hw5 : Below w.heap.size w w5:=hw4.trans (hs5.mono hw4.size)
      clear hd2 hX2
      clear hb5
      replace hk:=hk.trans (hs5.mono hk.size)
      go_wp2_with (fail)
      refine (hPa _).mono ?_
      rintro e w6 ⟨rfl,hb6⟩
      have hs6 : Below w5.heap.size w5 w6:=two_steps (by repeat (first | exact Below.refl _ _ | refine Below.setCell ?_ (by simp <;> omega) _ | refine Below.alloc ?_ (by simp <;> omega) _ | refine Below.drew ?_)) hb6
      have hw6 : Below w.heap.size w w6:=hw5.trans (hs6.mono hw5.size)
      clear hb6
      replace hk:=hk.trans (hs6.mono hk.size)
      go_wp2_with (fail)
      refine (hFq _ (by repeat (first | with_reducible exact hw6 | refine Below.setCell ?_ (by have:=hw6.size; simp <;> omega) _ | refine Below.alloc ?_ (by have:=hw6.size; simp <;> omega) _ | refine Below.drew ?_))).mono ?_
      rintro e w7 ⟨Xq,dq,rfl,hd2,hX2,hb7⟩
      have hs7 : Below w6.heap.size w6 w7:=two_steps (by repeat (first | exact Below.refl _ _ | refine Below.setCell ?_ (by simp <;> omega) _ | refine Below.alloc ?_ (by simp <;> omega) _ | refine Below.drew ?_)) hb7
      have hw7 : Below w.heap.size w w7:=hw6.trans (hs7.mono hw6.size)
      clear hd2 hX2
      clear hb7
      replace hk:=hk.trans (hs7.mono hk.size)
      go_wp2_with (fail)
      refine (hRt _).mono ?_
      rintro e w8 ⟨rfl,hb8⟩
      have hs8 : Below w7.heap.size w7 w8:=two_steps (by repeat (first | exact Below.refl _ _ | refine Below.setCell ?_ (by simp <;> omega) _ | refine Below.alloc ?_ (by simp <;> omega) _ | refine Below.drew ?_)) hb8
      have hw8 : Below w.heap.size w w8:=hw7.trans (hs8.mono hw7.size)
      have xy : w8.heap[w7.heap.size]? = some (.cells #[.string y1.f0,.int .i64 y1.f1,.slice Xq y1.f2.length dq,.string y1.f3] 41 (0,0)):=blk_below (blk_new w7 _) hb8
      clear hb8
      obtain ⟨yc0,yc1,yc2,yc3⟩:=cells4 xy
      replace hk:=hk.trans (hs8.mono hk.size)
      go_wp2_with (fail)
      refine (hF3.out _ (by repeat (first | with_reducible exact hk | refine Below.setCell ?_ (by have:=hk.size; simp <;> omega) _ | refine Below.alloc ?_ (by have:=hk.size; simp <;> omega) _ | refine Below.drew ?_))).mono ?_
      rintro e w9 ⟨X3,d3,rfl,hb9⟩
      clear yc0 yc1 yc2 yc3
      have hs9 : Below w8.heap.size w8 w9:=two_steps (by repeat (first | exact Below.refl _ _ | refine Below.setCell ?_ (by simp <;> omega) _ | refine Below.alloc ?_ (by simp <;> omega) _ | refine Below.drew ?_)) hb9
      have hw9 : Below w.heap.size w w9:=hw8.trans (hs9.mono hw8.size)
      have xy:=blk_below xy hs9
      clear hb9
      obtain ⟨yc0,yc1,yc2,yc3⟩:=cells4 xy
      replace hk:=hk.trans (hs9.mono hk.size)
      go_wp2_with (fail)
      refine (hA2.out _ (by repeat (first | with_reducible exact hk | refine Below.setCell ?_ (by have:=hk.size; simp <;> omega) _ | refine Below.alloc ?_ (by have:=hk.size; simp <;> omega) _ | refine Below.drew ?_))).mono ?_
      rintro e w10 ⟨S,rfl,hb10,-,hSn⟩
      clear yc0 yc1 yc2 yc3
      have hs10 : Below w9.heap.size w9 w10:=two_steps (by repeat (first | exact Below.refl _ _ | refine Below.setCell ?_ (by simp <;> omega) _ | refine Below.alloc ?_ (by simp <;> omega) _ | refine Below.drew ?_)) hb10
      have hw10 : Below w.heap.size w w10:=hw9.trans (hs10.mono hw9.size)
      have xy:=blk_below xy hs10
      have xz : w10.heap[w9.heap.size]? = some (.cells #[.string s,.int .i64 2,.slice X3 0 d3,.string ⟨#[]⟩] 41 (0,0)):=blk_below (blk_new w9 _) hb10
      have hS':=hSn (by decide)
      subst hS'
      clear hSn
      clear hb10
      obtain ⟨yc0,yc1,yc2,yc3⟩:=cells4 xy
      obtain ⟨zc0,zc1,zc2,zc3⟩:=cells4 xz
      replace hk:=hk.trans (hs10.mono hk.size)
      go_wp2_with (fail)
      refine (hA3.out _ (by repeat (first | with_reducible exact hk | refine Below.setCell ?_ (by have:=hk.size; simp <;> omega) _ | refine Below.alloc ?_ (by have:=hk.size; simp <;> omega) _ | refine Below.drew ?_))).mono ?_
      rintro e w11 ⟨S,rfl,hb11,hS,-⟩
      clear yc0 yc1 yc2 yc3 zc0 zc1 zc2 zc3
      have hs11 : Below w10.heap.size w10 w11:=two_steps (by repeat (first | exact Below.refl _ _ | refine Below.setCell ?_ (by simp <;> omega) _ | refine Below.alloc ?_ (by simp <;> omega) _ | refine Below.drew ?_)) hb11
      have hw11 : Below w.heap.size w w11:=hw10.trans (hs11.mono hw10.size)
      have xy:=blk_below xy hs11
      have xz:=blk_below xz hs11
      obtain ⟨A7,c7,rfl,hl7,hC7⟩:=hS (by trivial)
      clear hS
      replace hC7:=Aside0.mk hC7
      replace hl7:=Aside0.mk hl7
      clear hb11
      obtain ⟨yc0,yc1,yc2,yc3⟩:=cells4 xy
      obtain ⟨zc0,zc1,zc2,zc3⟩:=cells4 xz
      replace hk:=hk.trans (hs11.mono hk.size)
      go_wp2_with (fail)
      refine (sameE_at l hn.out hx.out A7 c7 A c _ (Kd.C_below hC7.out (Below.refl _ _)) hl7.out (Kd.C_below hr.out (by repeat (first | with_reducible exact hw11 | refine Below.setCell ?_ (by have:=hw11.size; simp <;> omega) _ | refine Below.alloc ?_ (by have:=hw11.size; simp <;> omega) _ | refine Below.drew ?_))) hc.out).mono ?_
      rintro e w12 ⟨rfl,hb12⟩
      clear yc0 yc1 yc2 yc3 zc0 zc1 zc2 zc3
      have hs12 : Below w11.heap.size w11 w12:=two_steps (by repeat (first | exact Below.refl _ _ | refine Below.setCell ?_ (by simp <;> omega) _ | refine Below.alloc ?_ (by simp <;> omega) _ | refine Below.drew ?_)) hb12
      have hw12 : Below w.heap.size w w12:=hw11.trans (hs12.mono hw11.size)
      have xy:=blk_below xy hs12
      have xz:=blk_below xz hs12
      clear hb12
      obtain ⟨yc0,yc1,yc2,yc3⟩:=cells4 xy
      obtain ⟨zc0,zc1,zc2,zc3⟩:=cells4 xz
      go_wp2
      go_ret
      exact ⟨rfl,(by repeat (first | with_reducible exact hw12 | refine Below.setCell ?_ (by have:=hw12.size; simp <;> omega) _ | refine Below.alloc ?_ (by have:=hw12.size; simp <;> omega) _ | refine Below.drew ?_))⟩
     ·rw [mp] at hPa
      have hFq:=fun U h => hFp u U h
      rw [mi] at hFq
      obtain ⟨y1,hy1⟩ : ∃ y,thingAt l u = y:=⟨_,rfl⟩
      rw [hy1] at hFq mf
      rw [mf] at hFq
      clear hFp hy1 mp mi mf
      dsimp only [Option.getD,Option.isSome] at hPa
      go_wp2_with (fail)
      refine (hF _ (by repeat (first | with_reducible exact hw4 | refine Below.setCell ?_ (by have:=hw4.size; simp <;> omega) _ | refine Below.alloc ?_ (by have:=hw4.size; simp <;> omega) _ | refine Below.drew ?_))).mono ?_
      rintro e w5 ⟨X2,d2,rfl,hd2,hX2,hb5⟩
      have hs5 : Below w4.heap.size w4 w5:=two_steps (by repeat (first | exact Below.refl _ _ | refine Below.setCell ?_ (by simp <;> omega) _ | refine Below.alloc ?_ (by simp <;> omega) _ | refine Below.drew ?_)) hb5
      have hw5 : Below w.heap.size w w5:=hw4.trans (hs5.mono hw4.size)
      clear hd2 hX2
      clear hb5
      replace hk:=hk.trans (hs5.mono hk.size)
      go_wp2_with (fail)
      refine (hPa _).mono ?_
      rintro e w6 ⟨rfl,hb6⟩
      have hs6 : Below w5.heap.size w5 w6:=two_steps (by repeat (first | exact Below.refl _ _ | refine Below.setCell ?_ (by simp <;> omega) _ | refine Below.alloc ?_ (by simp <;> omega) _ | refine Below.drew ?_)) hb6
      have hw6 : Below w.heap.size w w6:=hw5.trans (hs6.mono hw5.size)
      clear hb6
      replace hk:=hk.trans (hs6.mono hk.size)
      go_wp2_with (fail)
      refine (hFq _ (by repeat (first | with_reducible exact hw6 | refine Below.setCell ?_ (by have:=hw6.size; simp <;> omega) _ | refine Below.alloc ?_ (by have:=hw6.size; simp <;> omega) _ | refine Below.drew ?_))).mono ?_
      rintro e w7 ⟨Xq,dq,rfl,hd2,hX2,hb7⟩
      have hs7 : Below w6.heap.size w6 w7:=two_steps (by repeat (first | exact Below.refl _ _ | refine Below.setCell ?_ (by simp <;> omega) _ | refine Below.alloc ?_ (by simp <;> omega) _ | refine Below.drew ?_)) hb7
      have hw7 : Below w.heap.size w w7:=hw6.trans (hs7.mono hw6.size)
      clear hd2 hX2
      clear hb7
      replace hk:=hk.trans (hs7.mono hk.size)
      go_wp2_with (fail)
      refine (hRt _).mono ?_
      rintro e w8 ⟨rfl,hb8⟩
      have hs8 : Below w7.heap.size w7 w8:=two_steps (by repeat (first | exact Below.refl _ _ | refine Below.setCell ?_ (by simp <;> omega) _ | refine Below.alloc ?_ (by simp <;> omega) _ | refine Below.drew ?_)) hb8
      have hw8 : Below w.heap.size w w8:=hw7.trans (hs8.mono hw7.size)
      have xy : w8.heap[w7.heap.size]? = some (.cells #[.string y1.f0,.int .i64 1,.slice Xq y1.f2.length dq,.string y1.f3] 41 (0,0)):=blk_below (blk_new w7 _) hb8
      clear hb8
      obtain ⟨yc0,yc1,yc2,yc3⟩:=cells4 xy
      replace hk:=hk.trans (hs8.mono hk.size)
      go_wp2_with (fail)
      refine (hF3.out _ (by repeat (first | with_reducible exact hk | refine Below.setCell ?_ (by have:=hk.size; simp <;> omega) _ | refine Below.alloc ?_ (by have:=hk.size; simp <;> omega) _ | refine Below.drew ?_))).mono ?_
      rintro e w9 ⟨X3,d3,rfl,hb9⟩
      clear yc0 yc1 yc2 yc3
      have hs9 : Below w8.heap.size w8 w9:=two_steps (by repeat (first | exact Below.refl _ _ | refine Below.setCell ?_ (by simp <;> omega) _ | refine Below.alloc ?_ (by simp <;> omega) _ | refine Below.drew ?_)) hb9
      have hw9 : Below w.heap.size w w9:=hw8.trans (hs9.mono hw8.size)
      have xy:=blk_below xy hs9
      clear hb9
      obtain ⟨yc0,yc1,yc2,yc3⟩:=cells4 xy
      replace hk:=hk.trans (hs9.mono hk.size)
      go_wp2_with (fail)
      refine (hA2.out _ (by repeat (first | with_reducible exact hk | refine Below.setCell ?_ (by have:=hk.size; simp <;> omega) _ | refine Below.alloc ?_ (by have:=hk.size; simp <;> omega) _ | refine Below.drew ?_))).mono ?_
      rintro e w10 ⟨S,rfl,hb10,-,hSn⟩
      clear yc0 yc1 yc2 yc3
      have hs10 : Below w9.heap.size w9 w10:=two_steps (by repeat (first | exact Below.refl _ _ | refine Below.setCell ?_ (by simp <;> omega) _ | refine Below.alloc ?_ (by simp <;> omega) _ | refine Below.drew ?_)) hb10
      have hw10 : Below w.heap.size w w10:=hw9.trans (hs10.mono hw9.size)
      have xy:=blk_below xy hs10
      have xz : w10.heap[w9.heap.size]? = some (.cells #[.string s,.int .i64 2,.slice X3 0 d3,.string ⟨#[]⟩] 41 (0,0)):=blk_below (blk_new w9 _) hb10
      have hS':=hSn (by decide)
      subst hS'
      clear hSn
      clear hb10
      obtain ⟨yc0,yc1,yc2,yc3⟩:=cells4 xy
      obtain ⟨zc0,zc1,zc2,zc3⟩:=cells4 xz
      replace hk:=hk.trans (hs10.mono hk.size)
      go_wp2_with (fail)
      refine (hA3.out _ (by repeat (first | with_reducible exact hk | refine Below.setCell ?_ (by have:=hk.size; simp <;> omega) _ | refine Below.alloc ?_ (by have:=hk.size; simp <;> omega) _ | refine Below.drew ?_))).mono ?_
      rintro e w11 ⟨S,rfl,hb11,hS,-⟩
      clear yc0 yc1 yc2 yc3 zc0 zc1 zc2 zc3
      have hs11 : Below w10.heap.size w10 w11:=two_steps (by repeat (first | exact Below.refl _ _ | refine Below.setCell ?_ (by simp <;> omega) _ | refine Below.alloc ?_ (by simp <;> omega) _ | refine Below.drew ?_)) hb11
      have hw11 : Below w.heap.size w w11:=hw10.trans (hs11.mono hw10.size)
      have xy:=blk_below xy hs11
      have xz:=blk_below xz hs11
      obtain ⟨A7,c7,rfl,hl7,hC7⟩:=hS (by trivial)
      clear hS
      replace hC7:=Aside0.mk hC7
      replace hl7:=Aside0.mk hl7
      clear hb11
      obtain ⟨yc0,yc1,yc2,yc3⟩:=cells4 xy
      obtain ⟨zc0,zc1,zc2,zc3⟩:=cells4 xz
      replace hk:=hk.trans (hs11.mono hk.size)
      go_wp2_with (fail)
      refine (sameE_at l hn.out hx.out A7 c7 A c _ (Kd.C_below hC7.out (Below.refl _ _)) hl7.out (Kd.C_below hr.out (by repeat (first | with_reducible exact hw11 | refine Below.setCell ?_ (by have:=hw11.size; simp <;> omega) _ | refine Below.alloc ?_ (by have:=hw11.size; simp <;> omega) _ | refine Below.drew ?_))) hc.out).mono ?_
      rintro e w12 ⟨rfl,hb12⟩
      clear yc0 yc1 yc2 yc3 zc0 zc1 zc2 zc3
      have hs12 : Below w11.heap.size w11 w12:=two_steps (by repeat (first | exact Below.refl _ _ | refine Below.setCell ?_ (by simp <;> omega) _ | refine Below.alloc ?_ (by simp <;> omega) _ | refine Below.drew ?_)) hb12
      have hw12 : Below w.heap.size w w12:=hw11.trans (hs12.mono hw11.size)
      have xy:=blk_below xy hs12
      have xz:=blk_below xz hs12
      clear hb12
      obtain ⟨yc0,yc1,yc2,yc3⟩:=cells4 xy
      obtain ⟨zc0,zc1,zc2,zc3⟩:=cells4 xz
      go_wp2
      go_ret
      exact ⟨rfl,(by repeat (first | with_reducible exact hw12 | refine Below.setCell ?_ (by have:=hw12.size; simp <;> omega) _ | refine Below.alloc ?_ (by have:=hw12.size; simp <;> omega) _ | refine Below.drew ?_))⟩
    ·have hz : E ≠ 0:=fun k => hmay (hz0.out.1 k)
     have hmf:=may_false hmay
     have hSn0 : True:=trivial
     obtain ⟨th,hth⟩ : ∃ th,(findV l s).isSome = th:=⟨_,rfl⟩
     rw [hth] at hF hmf
     obtain ⟨rr,hrr⟩ : ∃ rr,rightB s = rr:=⟨_,rfl⟩
     rw [hrr] at hRt hmf
     clear hth hrr hmay hz0 hal hbM hTM hSn0
     go_wp2_with (fail)
     refine (hA.out _ (by repeat (first | with_reducible exact hw3 | refine Below.setCell ?_ (by have:=hw3.size; simp <;> omega) _ | refine Below.alloc ?_ (by have:=hw3.size; simp <;> omega) _ | refine Below.drew ?_))).mono ?_
     rintro e w4 ⟨S,rfl,hb4,-,hSn⟩
     have hs4 : Below w3.heap.size w3 w4:=two_steps (by repeat (first | exact Below.refl _ _ | refine Below.setCell ?_ (by simp <;> omega) _ | refine Below.alloc ?_ (by simp <;> omega) _ | refine Below.drew ?_)) hb4
     have hw4 : Below w.heap.size w w4:=hw3.trans (hs4.mono hw3.size)
     have hS':=hSn hz
     subst hS'
     clear hSn
     clear hb4
     have hne : (E == 0) = false:=by rw [beq_eq_false_iff_ne]; exact hz
     have hne2 : (E != 0) = true:=by rw [bne_iff_ne]; exact hz
     clear hz
     obtain ⟨pv,hpv⟩ : ∃ pv,parentV s = pv:=⟨_,rfl⟩
     rw [hpv] at hPa hmf
     clear hpv
     have hFq:=fun U h => hFp (pv.getD ⟨#[]⟩) U h
     obtain ⟨y1,hy1⟩ : ∃ y,thingAt l (pv.getD ⟨#[]⟩) = y:=⟨_,rfl⟩
     obtain ⟨i1,hi1⟩ : ∃ i,(findV l (pv.getD ⟨#[]⟩)).isSome = i:=⟨_,rfl⟩
     rw [hy1,hi1] at hFq
     have hcase : rr = false ∨ th = true ∨ pv.isSome = true ∧ (i1 = false ∨ i1 = true ∧ (y1.f1 == 1) = false):=by
      rcases hmf with h | h | ⟨u,rfl,h⟩
      ·exact .inl h
      ·exact .inr (.inl h)
      ·refine .inr (.inr ⟨rfl,?_⟩)
       rw [← hi1,← hy1]
       exact h
     obtain ⟨pq,hpq⟩ : ∃ pq,pv.getD ⟨#[]⟩ = pq:=⟨_,rfl⟩
     obtain ⟨hs2,hhs2⟩ : ∃ h,pv.isSome = h:=⟨_,rfl⟩
     rw [hpq,hhs2] at hPa
     rw [hpq] at hFq
     rw [hhs2] at hcase
     clear hFp hy1 hi1 hpq hhs2 hmf
     cases rr with
     | false =>
      clear hcase
      go_wp2_with (fail)
      refine (hF _ (by repeat (first | with_reducible exact hw4 | refine Below.setCell ?_ (by have:=hw4.size; simp <;> omega) _ | refine Below.alloc ?_ (by have:=hw4.size; simp <;> omega) _ | refine Below.drew ?_))).mono ?_
      rintro e w5 ⟨X2,d2,rfl,hd2,hX2,hb5⟩
      have hs5 : Below w4.heap.size w4 w5:=two_steps (by repeat (first | exact Below.refl _ _ | refine Below.setCell ?_ (by simp <;> omega) _ | refine Below.alloc ?_ (by simp <;> omega) _ | refine Below.drew ?_)) hb5
      have hw5 : Below w.heap.size w w5:=hw4.trans (hs5.mono hw4.size)
      clear hd2 hX2
      clear hb5
      go_wp2_with (fail)
      refine (hPa _).mono ?_
      rintro e w6 ⟨rfl,hb6⟩
      have hs6 : Below w5.heap.size w5 w6:=two_steps (by repeat (first | exact Below.refl _ _ | refine Below.setCell ?_ (by simp <;> omega) _ | refine Below.alloc ?_ (by simp <;> omega) _ | refine Below.drew ?_)) hb6
      have hw6 : Below w.heap.size w w6:=hw5.trans (hs6.mono hw5.size)
      clear hb6
      go_wp2_with (fail)
      refine (hFq _ (by repeat (first | with_reducible exact hw6 | refine Below.setCell ?_ (by have:=hw6.size; simp <;> omega) _ | refine Below.alloc ?_ (by have:=hw6.size; simp <;> omega) _ | refine Below.drew ?_))).mono ?_
      rintro e w7 ⟨Xq,dq,rfl,hd2,hX2,hb7⟩
      have hs7 : Below w6.heap.size w6 w7:=two_steps (by repeat (first | exact Below.refl _ _ | refine Below.setCell ?_ (by simp <;> omega) _ | refine Below.alloc ?_ (by simp <;> omega) _ | refine Below.drew ?_)) hb7
      have hw7 : Below w.heap.size w w7:=hw6.trans (hs7.mono hw6.size)
      clear hd2 hX2
      clear hb7
      go_wp2_with (fail)
      refine (hRt _).mono ?_
      rintro e w8 ⟨rfl,hb8⟩
      have hs8 : Below w7.heap.size w7 w8:=two_steps (by repeat (first | exact Below.refl _ _ | refine Below.setCell ?_ (by simp <;> omega) _ | refine Below.alloc ?_ (by simp <;> omega) _ | refine Below.drew ?_)) hb8
      have hw8 : Below w.heap.size w w8:=hw7.trans (hs8.mono hw7.size)
      have xy : w8.heap[w7.heap.size]? = some (.cells #[.string y1.f0,.int .i64 y1.f1,.slice Xq y1.f2.length dq,.string y1.f3] 41 (0,0)):=blk_below (blk_new w7 _) hb8
      clear hb8
      obtain ⟨yc0,yc1,yc2,yc3⟩:=cells4 xy
      go_wp2
      go_ret
      exact ⟨rfl,(by repeat (first | with_reducible exact hw8 | refine Below.setCell ?_ (by have:=hw8.size; simp <;> omega) _ | refine Below.alloc ?_ (by have:=hw8.size; simp <;> omega) _ | refine Below.drew ?_))⟩
     | true =>
      cases th with
      | true =>
       clear hcase
       go_wp2_with (fail)
       refine (hF _ (by repeat (first | with_reducible exact hw4 | refine Below.setCell ?_ (by have:=hw4.size; simp <;> omega) _ | refine Below.alloc ?_ (by have:=hw4.size; simp <;> omega) _ | refine Below.drew ?_))).mono ?_
       rintro e w5 ⟨X2,d2,rfl,hd2,hX2,hb5⟩
       have hs5 : Below w4.heap.size w4 w5:=two_steps (by repeat (first | exact Below.refl _ _ | refine Below.setCell ?_ (by simp <;> omega) _ | refine Below.alloc ?_ (by simp <;> omega) _ | refine Below.drew ?_)) hb5
       have hw5 : Below w.heap.size w w5:=hw4.trans (hs5.mono hw4.size)
       clear hd2 hX2
       clear hb5
       go_wp2_with (fail)
       refine (hPa _).mono ?_
       rintro e w6 ⟨rfl,hb6⟩
       have hs6 : Below w5.heap.size w5 w6:=two_steps (by repeat (first | exact Below.refl _ _ | refine Below.setCell ?_ (by simp <;> omega) _ | refine Below.alloc ?_ (by simp <;> omega) _ | refine Below.drew ?_)) hb6
       have hw6 : Below w.heap.size w w6:=hw5.trans (hs6.mono hw5.size)
       clear hb6
       go_wp2_with (fail)
       refine (hFq _ (by repeat (first | with_reducible exact hw6 | refine Below.setCell ?_ (by have:=hw6.size; simp <;> omega) _ | refine Below.alloc ?_ (by have:=hw6.size; simp <;> omega) _ | refine Below.drew ?_))).mono ?_
       rintro e w7 ⟨Xq,dq,rfl,hd2,hX2,hb7⟩
       have hs7 : Below w6.heap.size w6 w7:=two_steps (by repeat (first | exact Below.refl _ _ | refine Below.setCell ?_ (by simp <;> omega) _ | refine Below.alloc ?_ (by simp <;> omega) _ | refine Below.drew ?_)) hb7
       have hw7 : Below w.heap.size w w7:=hw6.trans (hs7.mono hw6.size)
       clear hd2 hX2
       clear hb7
       go_wp2_with (fail)
       refine (hRt _).mono ?_
       rintro e w8 ⟨rfl,hb8⟩
       have hs8 : Below w7.heap.size w7 w8:=two_steps (by repeat (first | exact Below.refl _ _ | refine Below.setCell ?_ (by simp <;> omega) _ | refine Below.alloc ?_ (by simp <;> omega) _ | refine Below.drew ?_)) hb8
       have hw8 : Below w.heap.size w w8:=hw7.trans (hs8.mono hw7.size)
       have xy : w8.heap[w7.heap.size]? = some (.cells #[.string y1.f0,.int .i64 y1.f1,.slice Xq y1.f2.length dq,.string y1.f3] 41 (0,0)):=blk_below (blk_new w7 _) hb8
       clear hb8
       obtain ⟨yc0,yc1,yc2,yc3⟩:=cells4 xy
       go_wp2
       go_ret
       exact ⟨rfl,(by repeat (first | with_reducible exact hw8 | refine Below.setCell ?_ (by have:=hw8.size; simp <;> omega) _ | refine Below.alloc ?_ (by have:=hw8.size; simp <;> omega) _ | refine Below.drew ?_))⟩
      | false =>
       rcases hcase with h | h | ⟨rfl,h⟩
       ·cases h
       ·cases h
       ·skip
        rcases h with rfl | ⟨rfl,h⟩
        ·skip
         go_wp2_with (fail)
         refine (hF _ (by repeat (first | with_reducible exact hw4 | refine Below.setCell ?_ (by have:=hw4.size; simp <;> omega) _ | refine Below.alloc ?_ (by have:=hw4.size; simp <;> omega) _ | refine Below.drew ?_))).mono ?_
         rintro e w5 ⟨X2,d2,rfl,hd2,hX2,hb5⟩
         have hs5 : Below w4.heap.size w4 w5:=two_steps (by repeat (first | exact Below.refl _ _ | refine Below.setCell ?_ (by simp <;> omega) _ | refine Below.alloc ?_ (by simp <;> omega) _ | refine Below.drew ?_)) hb5
         have hw5 : Below w.heap.size w w5:=hw4.trans (hs5.mono hw4.size)
         clear hd2 hX2
         clear hb5
         go_wp2_with (fail)
         refine (hPa _).mono ?_
         rintro e w6 ⟨rfl,hb6⟩
         have hs6 : Below w5.heap.size w5 w6:=two_steps (by repeat (first | exact Below.refl _ _ | refine Below.setCell ?_ (by simp <;> omega) _ | refine Below.alloc ?_ (by simp <;> omega) _ | refine Below.drew ?_)) hb6
         have hw6 : Below w.heap.size w w6:=hw5.trans (hs6.mono hw5.size)
         clear hb6
         go_wp2_with (fail)
         refine (hFq _ (by repeat (first | with_reducible exact hw6 | refine Below.setCell ?_ (by have:=hw6.size; simp <;> omega) _ | refine Below.alloc ?_ (by have:=hw6.size; simp <;> omega) _ | refine Below.drew ?_))).mono ?_
         rintro e w7 ⟨Xq,dq,rfl,hd2,hX2,hb7⟩
         have hs7 : Below w6.heap.size w6 w7:=two_steps (by repeat (first | exact Below.refl _ _ | refine Below.setCell ?_ (by simp <;> omega) _ | refine Below.alloc ?_ (by simp <;> omega) _ | refine Below.drew ?_)) hb7
         have hw7 : Below w.heap.size w w7:=hw6.trans (hs7.mono hw6.size)
         clear hd2 hX2
         clear hb7
         go_wp2_with (fail)
         refine (hRt _).mono ?_
         rintro e w8 ⟨rfl,hb8⟩
         have hs8 : Below w7.heap.size w7 w8:=two_steps (by repeat (first | exact Below.refl _ _ | refine Below.setCell ?_ (by simp <;> omega) _ | refine Below.alloc ?_ (by simp <;> omega) _ | refine Below.drew ?_)) hb8
         have hw8 : Below w.heap.size w w8:=hw7.trans (hs8.mono hw7.size)
         have xy : w8.heap[w7.heap.size]? = some (.cells #[.string y1.f0,.int .i64 y1.f1,.slice Xq y1.f2.length dq,.string y1.f3] 41 (0,0)):=blk_below (blk_new w7 _) hb8
         clear hb8
         obtain ⟨yc0,yc1,yc2,yc3⟩:=cells4 xy
         go_wp2
         go_ret
         exact ⟨rfl,(by repeat (first | with_reducible exact hw8 | refine Below.setCell ?_ (by have:=hw8.size; simp <;> omega) _ | refine Below.alloc ?_ (by have:=hw8.size; simp <;> omega) _ | refine Below.drew ?_))⟩
        ·skip
         go_wp2_with (fail)
         refine (hF _ (by repeat (first | with_reducible exact hw4 | refine Below.setCell ?_ (by have:=hw4.size; simp <;> omega) _ | refine Below.alloc ?_ (by have:=hw4.size; simp <;> omega) _ | refine Below.drew ?_))).mono ?_
         rintro e w5 ⟨X2,d2,rfl,hd2,hX2,hb5⟩
         have hs5 : Below w4.heap.size w4 w5:=two_steps (by repeat (first | exact Below.refl _ _ | refine Below.setCell ?_ (by simp <;> omega) _ | refine Below.alloc ?_ (by simp <;> omega) _ | refine Below.drew ?_)) hb5
         have hw5 : Below w.heap.size w w5:=hw4.trans (hs5.mono hw4.size)
         clear hd2 hX2
         clear hb5
         go_wp2_with (fail)
         refine (hPa _).mono ?_
         rintro e w6 ⟨rfl,hb6⟩
         have hs6 : Below w5.heap.size w5 w6:=two_steps (by repeat (first | exact Below.refl _ _ | refine Below.setCell ?_ (by simp <;> omega) _ | refine Below.alloc ?_ (by simp <;> omega) _ | refine Below.drew ?_)) hb6
         have hw6 : Below w.heap.size w w6:=hw5.trans (hs6.mono hw5.size)
         clear hb6
         go_wp2_with (fail)
         refine (hFq _ (by repeat (first | with_reducible exact hw6 | refine Below.setCell ?_ (by have:=hw6.size; simp <;> omega) _ | refine Below.alloc ?_ (by have:=hw6.size; simp <;> omega) _ | refine Below.drew ?_))).mono ?_
         rintro e w7 ⟨Xq,dq,rfl,hd2,hX2,hb7⟩
         have hs7 : Below w6.heap.size w6 w7:=two_steps (by repeat (first | exact Below.refl _ _ | refine Below.setCell ?_ (by simp <;> omega) _ | refine Below.alloc ?_ (by simp <;> omega) _ | refine Below.drew ?_)) hb7
         have hw7 : Below w.heap.size w w7:=hw6.trans (hs7.mono hw6.size)
         clear hd2 hX2
         clear hb7
         go_wp2_with (fail)
         refine (hRt _).mono ?_
         rintro e w8 ⟨rfl,hb8⟩
         have hs8 : Below w7.heap.size w7 w8:=two_steps (by repeat (first | exact Below.refl _ _ | refine Below.setCell ?_ (by simp <;> omega) _ | refine Below.alloc ?_ (by simp <;> omega) _ | refine Below.drew ?_)) hb8
         have hw8 : Below w.heap.size w w8:=hw7.trans (hs8.mono hw7.size)
         have xy : w8.heap[w7.heap.size]? = some (.cells #[.string y1.f0,.int .i64 y1.f1,.slice Xq y1.f2.length dq,.string y1.f3] 41 (0,0)):=blk_below (blk_new w7 _) hb8
         clear hb8
         obtain ⟨yc0,yc1,yc2,yc3⟩:=cells4 xy
         go_wp2
         go_ret
         exact ⟨rfl,(by repeat (first | with_reducible exact hw8 | refine Below.setCell ?_ (by have:=hw8.size; simp <;> omega) _ | refine Below.alloc ?_ (by have:=hw8.size; simp <;> omega) _ | refine Below.drew ?_))⟩
  ·skip
   have hb1 : decide ((s.size : Int) > 1000) = true:=decide_eq_true (by omega)
   have hb2 : decide ((1000 : Int) < (s.size : Int)) = true:=decide_eq_true (by omega)
   have hb3 : decide (1000 < s.size) = true:=decide_eq_true (by omega)
   have hb4 : (1000 < s.size) = True:=eq_true (by omega)
   replace hs:=Aside0.mk hs
   go_wp2
   go_ret
   exact ⟨rfl,(by repeat (first | with_reducible exact hw2 | refine Below.setCell ?_ (by have:=hw2.size; simp <;> omega) _ | refine Below.alloc ?_ (by have:=hw2.size; simp <;> omega) _ | refine Below.drew ?_))⟩
set_option maxHeartbeats 4000000 in
set_option maxRecDepth 1000000 in
theorem adds2_calls (l : List S41) (A : Option Addr) (c : Nat) (s : ByteArray) (a : Int) (w : World) (hr : Kd.C k41 w A l.length l) (hc : l.length ≤ c) (hn : l.length ≤ 140737488355328) (hx : ∀ x ∈ l,x.f2.length ≤ 140737488355328) (ha : a.tmod 3 = 2) :
  Calls Tryz.prog 7 #[.slice A l.length c,.string s,.int .u8 a] w fun e w' => e = .returned (.bool true) ∧ Below w.heap.size w w':=by
 obtain ⟨g,hgs,hG⟩:=G_at l A c w hr hc hn hx
 replace hG:=Aside0.mk hG
 replace hgs:=Aside0.mk hgs
 replace hn:=Aside0.mk hn
 replace hx:=Aside0.mk hx
 replace hr:=Aside0.mk hr
 replace hc:=Aside0.mk hc
 go_enter Tryz.func7,Tryz.ntmps7
 go_wp2_with (fail)
 refine (head08_calls _).mono ?_
 rintro e w1 ⟨rfl,hb1⟩
 have hs1 : Below w.heap.size w w1:=two_steps (by repeat (first | exact Below.refl _ _ | refine Below.setCell ?_ (by simp <;> omega) _ | refine Below.alloc ?_ (by simp <;> omega) _ | refine Below.drew ?_)) hb1
 have hw1 : Below w.heap.size w w1:=(Below.refl w.heap.size w).trans (hs1.mono (Below.refl w.heap.size w).size)
 clear hb1
 go_wp2_with (fail)
 refine (hG.out _ (by repeat (first | with_reducible exact hw1 | refine Below.setCell ?_ (by have:=hw1.size; simp <;> omega) _ | refine Below.alloc ?_ (by have:=hw1.size; simp <;> omega) _ | refine Below.drew ?_))).mono ?_
 rintro e w2 ⟨rfl,hb2⟩
 have hs2 : Below w1.heap.size w1 w2:=two_steps (by repeat (first | exact Below.refl _ _ | refine Below.setCell ?_ (by simp <;> omega) _ | refine Below.alloc ?_ (by simp <;> omega) _ | refine Below.drew ?_)) hb2
 have hw2 : Below w.heap.size w w2:=hw1.trans (hs2.mono hw1.size)
 clear hb2
 cases g with
 | true =>
  go_wp2
  go_ret
  exact ⟨rfl,(by repeat (first | with_reducible exact hw2 | refine Below.setCell ?_ (by have:=hw2.size; simp <;> omega) _ | refine Below.alloc ?_ (by have:=hw2.size; simp <;> omega) _ | refine Below.drew ?_))⟩
 | false =>
  have hsm:=Aside0.mk (hgs.out (by trivial))
  have hT:=Aside0.mk (TR_at l A c w hr.out hc.out hsm.out.2)
  by_cases hs : s.size ≤ 1000
  ·skip
   have hb1 : decide ((s.size : Int) > 1000) = false:=decide_eq_false (by omega)
   have hb2 : decide ((1000 : Int) < (s.size : Int)) = false:=decide_eq_false (by omega)
   have hb3 : decide (1000 < s.size) = false:=decide_eq_false (by omega)
   have hb4 : (1000 < s.size) = False:=eq_false (by omega)
   replace hs:=Aside0.mk hs
   cases ht : treeB l with
   | false =>
    rw [ht] at hT
    go_wp2_with (fail)
    refine (hT.out _ (by repeat (first | with_reducible exact hw2 | refine Below.setCell ?_ (by have:=hw2.size; simp <;> omega) _ | refine Below.alloc ?_ (by have:=hw2.size; simp <;> omega) _ | refine Below.drew ?_))).mono ?_
    rintro e w3 ⟨rfl,hb3⟩
    have hs3 : Below w2.heap.size w2 w3:=two_steps (by repeat (first | exact Below.refl _ _ | refine Below.setCell ?_ (by simp <;> omega) _ | refine Below.alloc ?_ (by simp <;> omega) _ | refine Below.drew ?_)) hb3
    have hw3 : Below w.heap.size w w3:=hw2.trans (hs3.mono hw2.size)
    clear hb3
    go_wp2
    go_ret
    exact ⟨rfl,(by repeat (first | with_reducible exact hw3 | refine Below.setCell ?_ (by have:=hw3.size; simp <;> omega) _ | refine Below.alloc ?_ (by have:=hw3.size; simp <;> omega) _ | refine Below.drew ?_))⟩
   | true =>
    rw [ht] at hT
    replace ht:=Aside0.mk ht
    go_wp2_with (fail)
    refine (hT.out _ (by repeat (first | with_reducible exact hw2 | refine Below.setCell ?_ (by have:=hw2.size; simp <;> omega) _ | refine Below.alloc ?_ (by have:=hw2.size; simp <;> omega) _ | refine Below.drew ?_))).mono ?_
    rintro e w3 ⟨rfl,hb3⟩
    have hs3 : Below w2.heap.size w2 w3:=two_steps (by repeat (first | exact Below.refl _ _ | refine Below.setCell ?_ (by simp <;> omega) _ | refine Below.alloc ?_ (by simp <;> omega) _ | refine Below.drew ?_)) hb3
    have hw3 : Below w.heap.size w w3:=hw2.trans (hs3.mono hw2.size)
    clear hb3
    have hl8 : l.length < 800:=hsm.out.1
    have hge : decide ((l.length : Int) ≥ 1024) = false:=decide_eq_false (by omega)
    have hge2 : decide ((1024 : Int) ≤ (l.length : Int)) = false:=decide_eq_false (by omega)
    have hge3 : decide (1024 ≤ l.length) = false:=decide_eq_false (by omega)
    have hge4 : (1024 ≤ l.length) = False:=eq_false (by omega)
    have hA:=fun U h => AP_at 4000 5 s l A c w hr.out (small_bnd hsm.out.2) (by decide) (by have:=hs.out; omega) U h
    have hz0:=adds_zero (tree_iff.1 ht.out) (show l.length < 1024 by omega) (k:=5) (by decide) s
    have hal:=fun h => adds_laws (l:=l) (k:=5) (path:=s) (by decide) h
    have hbM:=fun h => bnd_do (small_bnd hsm.out.2) (addQ (k:=5) (s:=s) (by have:=hs.out; omega)) (l:=l) h
    have hTM:=fun h => apply_tree (l:=l) (p:=addP 5 s) h
    obtain ⟨E,hE⟩ : ∃ E,applyE l (addP 5 s) = E:=⟨_,rfl⟩
    obtain ⟨M,hM⟩ : ∃ M,doL l (addP 5 s) = M:=⟨_,rfl⟩
    rw [hE,hM] at hA hal hbM hTM
    rw [hE] at hz0
    replace hA:=Aside0.mk hA
    replace hal:=Aside0.mk hal
    replace hbM:=Aside0.mk hbM
    replace hTM:=Aside0.mk hTM
    replace hz0:=Aside0.mk hz0
    clear hE hM hl8
    have hF:=fun U h => find_at l A c s w hr.out hc.out hn.out U h
    obtain ⟨y,hy⟩ : ∃ y,thingAt l s = y:=⟨_,rfl⟩
    rw [hy] at hF
    clear hy
    have hPa:=fun U => parentR_at s (by have:=hs.out; omega) U
    have hFp:=fun p U h => find_at l A c p w hr.out hc.out hn.out U h
    have hRt:=fun U => rightR_at s (by have:=hs.out; omega) U
    by_cases hmay : mayB l s = true
    ·obtain ⟨mr,mt,mp⟩:=may_true hmay
     have hE0:=hz0.out.2 hmay
     subst hE0
     rw [mr] at hRt
     rw [mt] at hF
     clear mr mt hmay hz0
     go_wp2_with (fail)
     refine (hA.out _ (by repeat (first | with_reducible exact hw3 | refine Below.setCell ?_ (by have:=hw3.size; simp <;> omega) _ | refine Below.alloc ?_ (by have:=hw3.size; simp <;> omega) _ | refine Below.drew ?_))).mono ?_
     rintro e w4 ⟨S,rfl,hb4,hS,-⟩
     have hs4 : Below w3.heap.size w3 w4:=two_steps (by repeat (first | exact Below.refl _ _ | refine Below.setCell ?_ (by simp <;> omega) _ | refine Below.alloc ?_ (by simp <;> omega) _ | refine Below.drew ?_)) hb4
     have hw4 : Below w.heap.size w w4:=hw3.trans (hs4.mono hw3.size)
     obtain ⟨A4,c4,rfl,hl4,hC4⟩:=hS (by trivial)
     clear hS
     replace hC4:=Aside0.mk hC4
     replace hl4:=Aside0.mk hl4
     clear hb4
     obtain ⟨m1,m2,m3,m4⟩:=hal.out (by trivial)
     replace hbM:=Aside0.mk (hbM.out (by trivial))
     have hMn : Aside0 (M.length ≤ 140737488355328):=⟨by have:=(hTM.out (by trivial)).n; omega⟩
     have hme : thingAt M s = newE (addP 5 s):=by unfold thingAt; rw [m1]; rfl
     have hF3 : ∀ U,Below w4.heap.size w4 U → Calls Tryz.prog 33 #[.slice A4 M.length c4,.string s] U fun e w' => ∃ X d,e = .returned (.tuple #[.agg #[.string s,.int .i64 3,.slice X 0 d,.string ⟨#[]⟩],.bool true]) ∧ Below U.heap.size U w':=fun U h => by
      have h3:=find_at M A4 c4 s w4 hC4.out hl4.out hMn.out U h
      rw [hme,m1] at h3
      refine h3.mono ?_
      rintro e w' ⟨X,d,rfl,-,-,hb⟩
      exact ⟨X,d,rfl,hb⟩
     have hA2:=fun U h => AP_at 8000 5 s M A4 c4 w4 hC4.out hbM.out (by decide) (by have:=hs.out; omega) U h
     have hA3:=fun U h => AP_at 8000 6 s M A4 c4 w4 hC4.out hbM.out (by decide) (by have:=hs.out; omega) U h
     rw [show (5 : Int) + 1 = 6 from rfl] at m3 m4
     rw [m2] at hA2
     rw [m3,m4] at hA3
     replace hF3:=Aside0.mk hF3
     replace hA2:=Aside0.mk hA2
     replace hA3:=Aside0.mk hA3
     clear m1 m2 m3 m4 hme hal hTM
     have hk : Below w4.heap.size w4 w4:=Below.refl _ _
     rcases mp with mp | ⟨u,mp,mi,mf⟩
     ·rw [mp] at hPa
      have hFq:=fun U h => hFp ⟨#[]⟩ U h
      obtain ⟨y1,hy1⟩ : ∃ y,thingAt l ⟨#[]⟩ = y:=⟨_,rfl⟩
      obtain ⟨i1,hi1⟩ : ∃ i,(findV l ⟨#[]⟩).isSome = i:=⟨_,rfl⟩
      rw [hy1,hi1] at hFq
      clear hFp hy1 hi1 mp
      dsimp only [Option.getD,Option.isSome] at hPa
      go_wp2_with (fail)
      refine (hF _ (by repeat (first | with_reducible exact hw4 | refine Below.setCell ?_ (by have:=hw4.size; simp <;> omega) _ | refine Below.alloc ?_ (by have:=hw4.size; simp <;> omega) _ | refine Below.drew ?_))).mono ?_
      rintro e w5 ⟨X2,d2,rfl,hd2,hX2,hb5⟩
      have hs5 : Below w4.heap.size w4 w5:=two_steps (by repeat (first | exact Below.refl _ _ | refine Below.setCell ?_ (by simp <;> omega) _ | refine Below.alloc ?_ (by simp <;> omega) _ | refine Below.drew ?_)) hb5
      have hw5 : Below w.heap.size w w5:=hw4.trans (hs5.mono hw4.size)
      clear hd2 hX2
      clear hb5
      replace hk:=hk.trans (hs5.mono hk.size)
      go_wp2_with (fail)
      refine (hPa _).mono ?_
      rintro e w6 ⟨rfl,hb6⟩
      have hs6 : Below w5.heap.size w5 w6:=two_steps (by repeat (first | exact Below.refl _ _ | refine Below.setCell ?_ (by simp <;> omega) _ | refine Below.alloc ?_ (by simp <;> omega) _ | refine Below.drew ?_)) hb6
      have hw6 : Below w.heap.size w w6:=hw5.trans (hs6.mono hw5.size)
      clear hb6
      replace hk:=hk.trans (hs6.mono hk.size)
      go_wp2_with (fail)
      refine (hFq _ (by repeat (first | with_reducible exact hw6 | refine Below.setCell ?_ (by have:=hw6.size; simp <;> omega) _ | refine Below.alloc ?_ (by have:=hw6.size; simp <;> omega) _ | refine Below.drew ?_))).mono ?_
      rintro e w7 ⟨Xq,dq,rfl,hd2,hX2,hb7⟩
      have hs7 : Below w6.heap.size w6 w7:=two_steps (by repeat (first | exact Below.refl _ _ | refine Below.setCell ?_ (by simp <;> omega) _ | refine Below.alloc ?_ (by simp <;> omega) _ | refine Below.drew ?_)) hb7
      have hw7 : Below w.heap.size w w7:=hw6.trans (hs7.mono hw6.size)
      clear hd2 hX2
      clear hb7
      replace hk:=hk.trans (hs7.mono hk.size)
      go_wp2_with (fail)
      refine (hRt _).mono ?_
      rintro e w8 ⟨rfl,hb8⟩
      have hs8 : Below w7.heap.size w7 w8:=two_steps (by repeat (first | exact Below.refl _ _ | refine Below.setCell ?_ (by simp <;> omega) _ | refine Below.alloc ?_ (by simp <;> omega) _ | refine Below.drew ?_)) hb8
      have hw8 : Below w.heap.size w w8:=hw7.trans (hs8.mono hw7.size)
      have xy : w8.heap[w7.heap.size]? = some (.cells #[.string y1.f0,.int .i64 y1.f1,.slice Xq y1.f2.length dq,.string y1.f3] 41 (0,0)):=blk_below (blk_new w7 _) hb8
      clear hb8
      obtain ⟨yc0,yc1,yc2,yc3⟩:=cells4 xy
      replace hk:=hk.trans (hs8.mono hk.size)
      go_wp2_with (fail)
      refine (hF3.out _ (by repeat (first | with_reducible exact hk | refine Below.setCell ?_ (by have:=hk.size; simp <;> omega) _ | refine Below.alloc ?_ (by have:=hk.size; simp <;> omega) _ | refine Below.drew ?_))).mono ?_
      rintro e w9 ⟨X3,d3,rfl,hb9⟩
      clear yc0 yc1 yc2 yc3
      have hs9 : Below w8.heap.size w8 w9:=two_steps (by repeat (first | exact Below.refl _ _ | refine Below.setCell ?_ (by simp <;> omega) _ | refine Below.alloc ?_ (by simp <;> omega) _ | refine Below.drew ?_)) hb9
      have hw9 : Below w.heap.size w w9:=hw8.trans (hs9.mono hw8.size)
      have xy:=blk_below xy hs9
      clear hb9
      obtain ⟨yc0,yc1,yc2,yc3⟩:=cells4 xy
      replace hk:=hk.trans (hs9.mono hk.size)
      go_wp2_with (fail)
      refine (hA2.out _ (by repeat (first | with_reducible exact hk | refine Below.setCell ?_ (by have:=hk.size; simp <;> omega) _ | refine Below.alloc ?_ (by have:=hk.size; simp <;> omega) _ | refine Below.drew ?_))).mono ?_
      rintro e w10 ⟨S,rfl,hb10,-,hSn⟩
      clear yc0 yc1 yc2 yc3
      have hs10 : Below w9.heap.size w9 w10:=two_steps (by repeat (first | exact Below.refl _ _ | refine Below.setCell ?_ (by simp <;> omega) _ | refine Below.alloc ?_ (by simp <;> omega) _ | refine Below.drew ?_)) hb10
      have hw10 : Below w.heap.size w w10:=hw9.trans (hs10.mono hw9.size)
      have xy:=blk_below xy hs10
      have xz : w10.heap[w9.heap.size]? = some (.cells #[.string s,.int .i64 3,.slice X3 0 d3,.string ⟨#[]⟩] 41 (0,0)):=blk_below (blk_new w9 _) hb10
      have hS':=hSn (by decide)
      subst hS'
      clear hSn
      clear hb10
      obtain ⟨yc0,yc1,yc2,yc3⟩:=cells4 xy
      obtain ⟨zc0,zc1,zc2,zc3⟩:=cells4 xz
      replace hk:=hk.trans (hs10.mono hk.size)
      go_wp2_with (fail)
      refine (hA3.out _ (by repeat (first | with_reducible exact hk | refine Below.setCell ?_ (by have:=hk.size; simp <;> omega) _ | refine Below.alloc ?_ (by have:=hk.size; simp <;> omega) _ | refine Below.drew ?_))).mono ?_
      rintro e w11 ⟨S,rfl,hb11,hS,-⟩
      clear yc0 yc1 yc2 yc3 zc0 zc1 zc2 zc3
      have hs11 : Below w10.heap.size w10 w11:=two_steps (by repeat (first | exact Below.refl _ _ | refine Below.setCell ?_ (by simp <;> omega) _ | refine Below.alloc ?_ (by simp <;> omega) _ | refine Below.drew ?_)) hb11
      have hw11 : Below w.heap.size w w11:=hw10.trans (hs11.mono hw10.size)
      have xy:=blk_below xy hs11
      have xz:=blk_below xz hs11
      obtain ⟨A7,c7,rfl,hl7,hC7⟩:=hS (by trivial)
      clear hS
      replace hC7:=Aside0.mk hC7
      replace hl7:=Aside0.mk hl7
      clear hb11
      obtain ⟨yc0,yc1,yc2,yc3⟩:=cells4 xy
      obtain ⟨zc0,zc1,zc2,zc3⟩:=cells4 xz
      replace hk:=hk.trans (hs11.mono hk.size)
      go_wp2_with (fail)
      refine (sameE_at l hn.out hx.out A7 c7 A c _ (Kd.C_below hC7.out (Below.refl _ _)) hl7.out (Kd.C_below hr.out (by repeat (first | with_reducible exact hw11 | refine Below.setCell ?_ (by have:=hw11.size; simp <;> omega) _ | refine Below.alloc ?_ (by have:=hw11.size; simp <;> omega) _ | refine Below.drew ?_))) hc.out).mono ?_
      rintro e w12 ⟨rfl,hb12⟩
      clear yc0 yc1 yc2 yc3 zc0 zc1 zc2 zc3
      have hs12 : Below w11.heap.size w11 w12:=two_steps (by repeat (first | exact Below.refl _ _ | refine Below.setCell ?_ (by simp <;> omega) _ | refine Below.alloc ?_ (by simp <;> omega) _ | refine Below.drew ?_)) hb12
      have hw12 : Below w.heap.size w w12:=hw11.trans (hs12.mono hw11.size)
      have xy:=blk_below xy hs12
      have xz:=blk_below xz hs12
      clear hb12
      obtain ⟨yc0,yc1,yc2,yc3⟩:=cells4 xy
      obtain ⟨zc0,zc1,zc2,zc3⟩:=cells4 xz
      go_wp2
      go_ret
      exact ⟨rfl,(by repeat (first | with_reducible exact hw12 | refine Below.setCell ?_ (by have:=hw12.size; simp <;> omega) _ | refine Below.alloc ?_ (by have:=hw12.size; simp <;> omega) _ | refine Below.drew ?_))⟩
     ·rw [mp] at hPa
      have hFq:=fun U h => hFp u U h
      rw [mi] at hFq
      obtain ⟨y1,hy1⟩ : ∃ y,thingAt l u = y:=⟨_,rfl⟩
      rw [hy1] at hFq mf
      rw [mf] at hFq
      clear hFp hy1 mp mi mf
      dsimp only [Option.getD,Option.isSome] at hPa
      go_wp2_with (fail)
      refine (hF _ (by repeat (first | with_reducible exact hw4 | refine Below.setCell ?_ (by have:=hw4.size; simp <;> omega) _ | refine Below.alloc ?_ (by have:=hw4.size; simp <;> omega) _ | refine Below.drew ?_))).mono ?_
      rintro e w5 ⟨X2,d2,rfl,hd2,hX2,hb5⟩
      have hs5 : Below w4.heap.size w4 w5:=two_steps (by repeat (first | exact Below.refl _ _ | refine Below.setCell ?_ (by simp <;> omega) _ | refine Below.alloc ?_ (by simp <;> omega) _ | refine Below.drew ?_)) hb5
      have hw5 : Below w.heap.size w w5:=hw4.trans (hs5.mono hw4.size)
      clear hd2 hX2
      clear hb5
      replace hk:=hk.trans (hs5.mono hk.size)
      go_wp2_with (fail)
      refine (hPa _).mono ?_
      rintro e w6 ⟨rfl,hb6⟩
      have hs6 : Below w5.heap.size w5 w6:=two_steps (by repeat (first | exact Below.refl _ _ | refine Below.setCell ?_ (by simp <;> omega) _ | refine Below.alloc ?_ (by simp <;> omega) _ | refine Below.drew ?_)) hb6
      have hw6 : Below w.heap.size w w6:=hw5.trans (hs6.mono hw5.size)
      clear hb6
      replace hk:=hk.trans (hs6.mono hk.size)
      go_wp2_with (fail)
      refine (hFq _ (by repeat (first | with_reducible exact hw6 | refine Below.setCell ?_ (by have:=hw6.size; simp <;> omega) _ | refine Below.alloc ?_ (by have:=hw6.size; simp <;> omega) _ | refine Below.drew ?_))).mono ?_
      rintro e w7 ⟨Xq,dq,rfl,hd2,hX2,hb7⟩
      have hs7 : Below w6.heap.size w6 w7:=two_steps (by repeat (first | exact Below.refl _ _ | refine Below.setCell ?_ (by simp <;> omega) _ | refine Below.alloc ?_ (by simp <;> omega) _ | refine Below.drew ?_)) hb7
      have hw7 : Below w.heap.size w w7:=hw6.trans (hs7.mono hw6.size)
      clear hd2 hX2
      clear hb7
      replace hk:=hk.trans (hs7.mono hk.size)
      go_wp2_with (fail)
      refine (hRt _).mono ?_
      rintro e w8 ⟨rfl,hb8⟩
      have hs8 : Below w7.heap.size w7 w8:=two_steps (by repeat (first | exact Below.refl _ _ | refine Below.setCell ?_ (by simp <;> omega) _ | refine Below.alloc ?_ (by simp <;> omega) _ | refine Below.drew ?_)) hb8
      have hw8 : Below w.heap.size w w8:=hw7.trans (hs8.mono hw7.size)
      have xy : w8.heap[w7.heap.size]? = some (.cells #[.string y1.f0,.int .i64 1,.slice Xq y1.f2.length dq,.string y1.f3] 41 (0,0)):=blk_below (blk_new w7 _) hb8
      clear hb8
      obtain ⟨yc0,yc1,yc2,yc3⟩:=cells4 xy
      replace hk:=hk.trans (hs8.mono hk.size)
      go_wp2_with (fail)
      refine (hF3.out _ (by repeat (first | with_reducible exact hk | refine Below.setCell ?_ (by have:=hk.size; simp <;> omega) _ | refine Below.alloc ?_ (by have:=hk.size; simp <;> omega) _ | refine Below.drew ?_))).mono ?_
      rintro e w9 ⟨X3,d3,rfl,hb9⟩
      clear yc0 yc1 yc2 yc3
      have hs9 : Below w8.heap.size w8 w9:=two_steps (by repeat (first | exact Below.refl _ _ | refine Below.setCell ?_ (by simp <;> omega) _ | refine Below.alloc ?_ (by simp <;> omega) _ | refine Below.drew ?_)) hb9
      have hw9 : Below w.heap.size w w9:=hw8.trans (hs9.mono hw8.size)
      have xy:=blk_below xy hs9
      clear hb9
      obtain ⟨yc0,yc1,yc2,yc3⟩:=cells4 xy
      replace hk:=hk.trans (hs9.mono hk.size)
      go_wp2_with (fail)
      refine (hA2.out _ (by repeat (first | with_reducible exact hk | refine Below.setCell ?_ (by have:=hk.size; simp <;> omega) _ | refine Below.alloc ?_ (by have:=hk.size; simp <;> omega) _ | refine Below.drew ?_))).mono ?_
      rintro e w10 ⟨S,rfl,hb10,-,hSn⟩
      clear yc0 yc1 yc2 yc3
      have hs10 : Below w9.heap.size w9 w10:=two_steps (by repeat (first | exact Below.refl _ _ | refine Below.setCell ?_ (by simp <;> omega) _ | refine Below.alloc ?_ (by simp <;> omega) _ | refine Below.drew ?_)) hb10
      have hw10 : Below w.heap.size w w10:=hw9.trans (hs10.mono hw9.size)
      have xy:=blk_below xy hs10
      have xz : w10.heap[w9.heap.size]? = some (.cells #[.string s,.int .i64 3,.slice X3 0 d3,.string ⟨#[]⟩] 41 (0,0)):=blk_below (blk_new w9 _) hb10
      have hS':=hSn (by decide)
      subst hS'
      clear hSn
      clear hb10
      obtain ⟨yc0,yc1,yc2,yc3⟩:=cells4 xy
      obtain ⟨zc0,zc1,zc2,zc3⟩:=cells4 xz
      replace hk:=hk.trans (hs10.mono hk.size)
      go_wp2_with (fail)
      refine (hA3.out _ (by repeat (first | with_reducible exact hk | refine Below.setCell ?_ (by have:=hk.size; simp <;> omega) _ | refine Below.alloc ?_ (by have:=hk.size; simp <;> omega) _ | refine Below.drew ?_))).mono ?_
      rintro e w11 ⟨S,rfl,hb11,hS,-⟩
      clear yc0 yc1 yc2 yc3 zc0 zc1 zc2 zc3
      have hs11 : Below w10.heap.size w10 w11:=two_steps (by repeat (first | exact Below.refl _ _ | refine Below.setCell ?_ (by simp <;> omega) _ | refine Below.alloc ?_ (by simp <;> omega) _ | refine Below.drew ?_)) hb11
      have hw11 : Below w.heap.size w w11:=hw10.trans (hs11.mono hw10.size)
      have xy:=blk_below xy hs11
      have xz:=blk_below xz hs11
      obtain ⟨A7,c7,rfl,hl7,hC7⟩:=hS (by trivial)
      clear hS
      replace hC7:=Aside0.mk hC7
      replace hl7:=Aside0.mk hl7
      clear hb11
      obtain ⟨yc0,yc1,yc2,yc3⟩:=cells4 xy
      obtain ⟨zc0,zc1,zc2,zc3⟩:=cells4 xz
      replace hk:=hk.trans (hs11.mono hk.size)
      go_wp2_with (fail)
      refine (sameE_at l hn.out hx.out A7 c7 A c _ (Kd.C_below hC7.out (Below.refl _ _)) hl7.out (Kd.C_below hr.out (by repeat (first | with_reducible exact hw11 | refine Below.setCell ?_ (by have:=hw11.size; simp <;> omega) _ | refine Below.alloc ?_ (by have:=hw11.size; simp <;> omega) _ | refine Below.drew ?_))) hc.out).mono ?_
      rintro e w12 ⟨rfl,hb12⟩
      clear yc0 yc1 yc2 yc3 zc0 zc1 zc2 zc3
      have hs12 : Below w11.heap.size w11 w12:=two_steps (by repeat (first | exact Below.refl _ _ | refine Below.setCell ?_ (by simp <;> omega) _ | refine Below.alloc ?_ (by simp <;> omega) _ | refine Below.drew ?_)) hb12
      have hw12 : Below w.heap.size w w12:=hw11.trans (hs12.mono hw11.size)
      have xy:=blk_below xy hs12
      have xz:=blk_below xz hs12
      clear hb12
      obtain ⟨yc0,yc1,yc2,yc3⟩:=cells4 xy
      obtain ⟨zc0,zc1,zc2,zc3⟩:=cells4 xz
      go_wp2
      go_ret
      exact ⟨rfl,(by repeat (first | with_reducible exact hw12 | refine Below.setCell ?_ (by have:=hw12.size; simp <;> omega) _ | refine Below.alloc ?_ (by have:=hw12.size; simp <;> omega) _ | refine Below.drew ?_))⟩
    ·have hz : E ≠ 0:=fun k => hmay (hz0.out.1 k)
     have hmf:=may_false hmay
     have hSn0 : True:=trivial
     obtain ⟨th,hth⟩ : ∃ th,(findV l s).isSome = th:=⟨_,rfl⟩
     rw [hth] at hF hmf
     obtain ⟨rr,hrr⟩ : ∃ rr,rightB s = rr:=⟨_,rfl⟩
     rw [hrr] at hRt hmf
     clear hth hrr hmay hz0 hal hbM hTM hSn0
     go_wp2_with (fail)
     refine (hA.out _ (by repeat (first | with_reducible exact hw3 | refine Below.setCell ?_ (by have:=hw3.size; simp <;> omega) _ | refine Below.alloc ?_ (by have:=hw3.size; simp <;> omega) _ | refine Below.drew ?_))).mono ?_
     rintro e w4 ⟨S,rfl,hb4,-,hSn⟩
     have hs4 : Below w3.heap.size w3 w4:=two_steps (by repeat (first | exact Below.refl _ _ | refine Below.setCell ?_ (by simp <;> omega) _ | refine Below.alloc ?_ (by simp <;> omega) _ | refine Below.drew ?_)) hb4
     have hw4 : Below w.heap.size w w4:=hw3.trans (hs4.mono hw3.size)
     have hS':=hSn hz
     subst hS'
     clear hSn
     clear hb4
     have hne : (E == 0) = false:=by rw [beq_eq_false_iff_ne]; exact hz
     have hne2 : (E != 0) = true:=by rw [bne_iff_ne]; exact hz
     clear hz
     obtain ⟨pv,hpv⟩ : ∃ pv,parentV s = pv:=⟨_,rfl⟩
     rw [hpv] at hPa hmf
     clear hpv
     have hFq:=fun U h => hFp (pv.getD ⟨#[]⟩) U h
     obtain ⟨y1,hy1⟩ : ∃ y,thingAt l (pv.getD ⟨#[]⟩) = y:=⟨_,rfl⟩
     obtain ⟨i1,hi1⟩ : ∃ i,(findV l (pv.getD ⟨#[]⟩)).isSome = i:=⟨_,rfl⟩
     rw [hy1,hi1] at hFq
     have hcase : rr = false ∨ th = true ∨ pv.isSome = true ∧ (i1 = false ∨ i1 = true ∧ (y1.f1 == 1) = false):=by
      rcases hmf with h | h | ⟨u,rfl,h⟩
      ·exact .inl h
      ·exact .inr (.inl h)
      ·refine .inr (.inr ⟨rfl,?_⟩)
       rw [← hi1,← hy1]
       exact h
     obtain ⟨pq,hpq⟩ : ∃ pq,pv.getD ⟨#[]⟩ = pq:=⟨_,rfl⟩
     obtain ⟨hs2,hhs2⟩ : ∃ h,pv.isSome = h:=⟨_,rfl⟩
     rw [hpq,hhs2] at hPa
     rw [hpq] at hFq
     rw [hhs2] at hcase
     clear hFp hy1 hi1 hpq hhs2 hmf
     cases rr with
     | false =>
      clear hcase
      go_wp2_with (fail)
      refine (hF _ (by repeat (first | with_reducible exact hw4 | refine Below.setCell ?_ (by have:=hw4.size; simp <;> omega) _ | refine Below.alloc ?_ (by have:=hw4.size; simp <;> omega) _ | refine Below.drew ?_))).mono ?_
      rintro e w5 ⟨X2,d2,rfl,hd2,hX2,hb5⟩
      have hs5 : Below w4.heap.size w4 w5:=two_steps (by repeat (first | exact Below.refl _ _ | refine Below.setCell ?_ (by simp <;> omega) _ | refine Below.alloc ?_ (by simp <;> omega) _ | refine Below.drew ?_)) hb5
      have hw5 : Below w.heap.size w w5:=hw4.trans (hs5.mono hw4.size)
      clear hd2 hX2
      clear hb5
      go_wp2_with (fail)
      refine (hPa _).mono ?_
      rintro e w6 ⟨rfl,hb6⟩
      have hs6 : Below w5.heap.size w5 w6:=two_steps (by repeat (first | exact Below.refl _ _ | refine Below.setCell ?_ (by simp <;> omega) _ | refine Below.alloc ?_ (by simp <;> omega) _ | refine Below.drew ?_)) hb6
      have hw6 : Below w.heap.size w w6:=hw5.trans (hs6.mono hw5.size)
      clear hb6
      go_wp2_with (fail)
      refine (hFq _ (by repeat (first | with_reducible exact hw6 | refine Below.setCell ?_ (by have:=hw6.size; simp <;> omega) _ | refine Below.alloc ?_ (by have:=hw6.size; simp <;> omega) _ | refine Below.drew ?_))).mono ?_
      rintro e w7 ⟨Xq,dq,rfl,hd2,hX2,hb7⟩
      have hs7 : Below w6.heap.size w6 w7:=two_steps (by repeat (first | exact Below.refl _ _ | refine Below.setCell ?_ (by simp <;> omega) _ | refine Below.alloc ?_ (by simp <;> omega) _ | refine Below.drew ?_)) hb7
      have hw7 : Below w.heap.size w w7:=hw6.trans (hs7.mono hw6.size)
      clear hd2 hX2
      clear hb7
      go_wp2_with (fail)
      refine (hRt _).mono ?_
      rintro e w8 ⟨rfl,hb8⟩
      have hs8 : Below w7.heap.size w7 w8:=two_steps (by repeat (first | exact Below.refl _ _ | refine Below.setCell ?_ (by simp <;> omega) _ | refine Below.alloc ?_ (by simp <;> omega) _ | refine Below.drew ?_)) hb8
      have hw8 : Below w.heap.size w w8:=hw7.trans (hs8.mono hw7.size)
      have xy : w8.heap[w7.heap.size]? = some (.cells #[.string y1.f0,.int .i64 y1.f1,.slice Xq y1.f2.length dq,.string y1.f3] 41 (0,0)):=blk_below (blk_new w7 _) hb8
      clear hb8
      obtain ⟨yc0,yc1,yc2,yc3⟩:=cells4 xy
      go_wp2
      go_ret
      exact ⟨rfl,(by repeat (first | with_reducible exact hw8 | refine Below.setCell ?_ (by have:=hw8.size; simp <;> omega) _ | refine Below.alloc ?_ (by have:=hw8.size; simp <;> omega) _ | refine Below.drew ?_))⟩
     | true =>
      cases th with
      | true =>
       clear hcase
       go_wp2_with (fail)
       refine (hF _ (by repeat (first | with_reducible exact hw4 | refine Below.setCell ?_ (by have:=hw4.size; simp <;> omega) _ | refine Below.alloc ?_ (by have:=hw4.size; simp <;> omega) _ | refine Below.drew ?_))).mono ?_
       rintro e w5 ⟨X2,d2,rfl,hd2,hX2,hb5⟩
       have hs5 : Below w4.heap.size w4 w5:=two_steps (by repeat (first | exact Below.refl _ _ | refine Below.setCell ?_ (by simp <;> omega) _ | refine Below.alloc ?_ (by simp <;> omega) _ | refine Below.drew ?_)) hb5
       have hw5 : Below w.heap.size w w5:=hw4.trans (hs5.mono hw4.size)
       clear hd2 hX2
       clear hb5
       go_wp2_with (fail)
       refine (hPa _).mono ?_
       rintro e w6 ⟨rfl,hb6⟩
       have hs6 : Below w5.heap.size w5 w6:=two_steps (by repeat (first | exact Below.refl _ _ | refine Below.setCell ?_ (by simp <;> omega) _ | refine Below.alloc ?_ (by simp <;> omega) _ | refine Below.drew ?_)) hb6
       have hw6 : Below w.heap.size w w6:=hw5.trans (hs6.mono hw5.size)
       clear hb6
       go_wp2_with (fail)
       refine (hFq _ (by repeat (first | with_reducible exact hw6 | refine Below.setCell ?_ (by have:=hw6.size; simp <;> omega) _ | refine Below.alloc ?_ (by have:=hw6.size; simp <;> omega) _ | refine Below.drew ?_))).mono ?_
       rintro e w7 ⟨Xq,dq,rfl,hd2,hX2,hb7⟩
       have hs7 : Below w6.heap.size w6 w7:=two_steps (by repeat (first | exact Below.refl _ _ | refine Below.setCell ?_ (by simp <;> omega) _ | refine Below.alloc ?_ (by simp <;> omega) _ | refine Below.drew ?_)) hb7
       have hw7 : Below w.heap.size w w7:=hw6.trans (hs7.mono hw6.size)
       clear hd2 hX2
       clear hb7
       go_wp2_with (fail)
       refine (hRt _).mono ?_
       rintro e w8 ⟨rfl,hb8⟩
       have hs8 : Below w7.heap.size w7 w8:=two_steps (by repeat (first | exact Below.refl _ _ | refine Below.setCell ?_ (by simp <;> omega) _ | refine Below.alloc ?_ (by simp <;> omega) _ | refine Below.drew ?_)) hb8
       have hw8 : Below w.heap.size w w8:=hw7.trans (hs8.mono hw7.size)
       have xy : w8.heap[w7.heap.size]? = some (.cells #[.string y1.f0,.int .i64 y1.f1,.slice Xq y1.f2.length dq,.string y1.f3] 41 (0,0)):=blk_below (blk_new w7 _) hb8
       clear hb8
       obtain ⟨yc0,yc1,yc2,yc3⟩:=cells4 xy
       go_wp2
       go_ret
       exact ⟨rfl,(by repeat (first | with_reducible exact hw8 | refine Below.setCell ?_ (by have:=hw8.size; simp <;> omega) _ | refine Below.alloc ?_ (by have:=hw8.size; simp <;> omega) _ | refine Below.drew ?_))⟩
      | false =>
       rcases hcase with h | h | ⟨rfl,h⟩
       ·cases h
       ·cases h
       ·skip
        rcases h with rfl | ⟨rfl,h⟩
        ·skip
         go_wp2_with (fail)
         refine (hF _ (by repeat (first | with_reducible exact hw4 | refine Below.setCell ?_ (by have:=hw4.size; simp <;> omega) _ | refine Below.alloc ?_ (by have:=hw4.size; simp <;> omega) _ | refine Below.drew ?_))).mono ?_
         rintro e w5 ⟨X2,d2,rfl,hd2,hX2,hb5⟩
         have hs5 : Below w4.heap.size w4 w5:=two_steps (by repeat (first | exact Below.refl _ _ | refine Below.setCell ?_ (by simp <;> omega) _ | refine Below.alloc ?_ (by simp <;> omega) _ | refine Below.drew ?_)) hb5
         have hw5 : Below w.heap.size w w5:=hw4.trans (hs5.mono hw4.size)
         clear hd2 hX2
         clear hb5
         go_wp2_with (fail)
         refine (hPa _).mono ?_
         rintro e w6 ⟨rfl,hb6⟩
         have hs6 : Below w5.heap.size w5 w6:=two_steps (by repeat (first | exact Below.refl _ _ | refine Below.setCell ?_ (by simp <;> omega) _ | refine Below.alloc ?_ (by simp <;> omega) _ | refine Below.drew ?_)) hb6
         have hw6 : Below w.heap.size w w6:=hw5.trans (hs6.mono hw5.size)
         clear hb6
         go_wp2_with (fail)
         refine (hFq _ (by repeat (first | with_reducible exact hw6 | refine Below.setCell ?_ (by have:=hw6.size; simp <;> omega) _ | refine Below.alloc ?_ (by have:=hw6.size; simp <;> omega) _ | refine Below.drew ?_))).mono ?_
         rintro e w7 ⟨Xq,dq,rfl,hd2,hX2,hb7⟩
         have hs7 : Below w6.heap.size w6 w7:=two_steps (by repeat (first | exact Below.refl _ _ | refine Below.setCell ?_ (by simp <;> omega) _ | refine Below.alloc ?_ (by simp <;> omega) _ | refine Below.drew ?_)) hb7
         have hw7 : Below w.heap.size w w7:=hw6.trans (hs7.mono hw6.size)
         clear hd2 hX2
         clear hb7
         go_wp2_with (fail)
         refine (hRt _).mono ?_
         rintro e w8 ⟨rfl,hb8⟩
         have hs8 : Below w7.heap.size w7 w8:=two_steps (by repeat (first | exact Below.refl _ _ | refine Below.setCell ?_ (by simp <;> omega) _ | refine Below.alloc ?_ (by simp <;> omega) _ | refine Below.drew ?_)) hb8
         have hw8 : Below w.heap.size w w8:=hw7.trans (hs8.mono hw7.size)
         have xy : w8.heap[w7.heap.size]? = some (.cells #[.string y1.f0,.int .i64 y1.f1,.slice Xq y1.f2.length dq,.string y1.f3] 41 (0,0)):=blk_below (blk_new w7 _) hb8
         clear hb8
         obtain ⟨yc0,yc1,yc2,yc3⟩:=cells4 xy
         go_wp2
         go_ret
         exact ⟨rfl,(by repeat (first | with_reducible exact hw8 | refine Below.setCell ?_ (by have:=hw8.size; simp <;> omega) _ | refine Below.alloc ?_ (by have:=hw8.size; simp <;> omega) _ | refine Below.drew ?_))⟩
        ·skip
         go_wp2_with (fail)
         refine (hF _ (by repeat (first | with_reducible exact hw4 | refine Below.setCell ?_ (by have:=hw4.size; simp <;> omega) _ | refine Below.alloc ?_ (by have:=hw4.size; simp <;> omega) _ | refine Below.drew ?_))).mono ?_
         rintro e w5 ⟨X2,d2,rfl,hd2,hX2,hb5⟩
         have hs5 : Below w4.heap.size w4 w5:=two_steps (by repeat (first | exact Below.refl _ _ | refine Below.setCell ?_ (by simp <;> omega) _ | refine Below.alloc ?_ (by simp <;> omega) _ | refine Below.drew ?_)) hb5
         have hw5 : Below w.heap.size w w5:=hw4.trans (hs5.mono hw4.size)
         clear hd2 hX2
         clear hb5
         go_wp2_with (fail)
         refine (hPa _).mono ?_
         rintro e w6 ⟨rfl,hb6⟩
         have hs6 : Below w5.heap.size w5 w6:=two_steps (by repeat (first | exact Below.refl _ _ | refine Below.setCell ?_ (by simp <;> omega) _ | refine Below.alloc ?_ (by simp <;> omega) _ | refine Below.drew ?_)) hb6
         have hw6 : Below w.heap.size w w6:=hw5.trans (hs6.mono hw5.size)
         clear hb6
         go_wp2_with (fail)
         refine (hFq _ (by repeat (first | with_reducible exact hw6 | refine Below.setCell ?_ (by have:=hw6.size; simp <;> omega) _ | refine Below.alloc ?_ (by have:=hw6.size; simp <;> omega) _ | refine Below.drew ?_))).mono ?_
         rintro e w7 ⟨Xq,dq,rfl,hd2,hX2,hb7⟩
         have hs7 : Below w6.heap.size w6 w7:=two_steps (by repeat (first | exact Below.refl _ _ | refine Below.setCell ?_ (by simp <;> omega) _ | refine Below.alloc ?_ (by simp <;> omega) _ | refine Below.drew ?_)) hb7
         have hw7 : Below w.heap.size w w7:=hw6.trans (hs7.mono hw6.size)
         clear hd2 hX2
         clear hb7
         go_wp2_with (fail)
         refine (hRt _).mono ?_
         rintro e w8 ⟨rfl,hb8⟩
         have hs8 : Below w7.heap.size w7 w8:=two_steps (by repeat (first | exact Below.refl _ _ | refine Below.setCell ?_ (by simp <;> omega) _ | refine Below.alloc ?_ (by simp <;> omega) _ | refine Below.drew ?_)) hb8
         have hw8 : Below w.heap.size w w8:=hw7.trans (hs8.mono hw7.size)
         have xy : w8.heap[w7.heap.size]? = some (.cells #[.string y1.f0,.int .i64 y1.f1,.slice Xq y1.f2.length dq,.string y1.f3] 41 (0,0)):=blk_below (blk_new w7 _) hb8
         clear hb8
         obtain ⟨yc0,yc1,yc2,yc3⟩:=cells4 xy
         go_wp2
         go_ret
         exact ⟨rfl,(by repeat (first | with_reducible exact hw8 | refine Below.setCell ?_ (by have:=hw8.size; simp <;> omega) _ | refine Below.alloc ?_ (by have:=hw8.size; simp <;> omega) _ | refine Below.drew ?_))⟩
  ·skip
   have hb1 : decide ((s.size : Int) > 1000) = true:=decide_eq_true (by omega)
   have hb2 : decide ((1000 : Int) < (s.size : Int)) = true:=decide_eq_true (by omega)
   have hb3 : decide (1000 < s.size) = true:=decide_eq_true (by omega)
   have hb4 : (1000 < s.size) = True:=eq_true (by omega)
   replace hs:=Aside0.mk hs
   go_wp2
   go_ret
   exact ⟨rfl,(by repeat (first | with_reducible exact hw2 | refine Below.setCell ?_ (by have:=hw2.size; simp <;> omega) _ | refine Below.alloc ?_ (by have:=hw2.size; simp <;> omega) _ | refine Below.drew ?_))⟩
set_option maxHeartbeats 4000000 in
set_option maxRecDepth 1000000 in
theorem adds_calls (l : List S41) (A : Option Addr) (c : Nat) (s : ByteArray) (a : Int) (w : World) (hr : Kd.C k41 w A l.length l) (hc : l.length ≤ c) (hn : l.length ≤ 140737488355328) (hx : ∀ x ∈ l,x.f2.length ≤ 140737488355328) (ha0 : 0 ≤ a) (ha1 : a ≤ 255) :
  Calls Tryz.prog 7 #[.slice A l.length c,.string s,.int .u8 a] w fun e w' => e = .returned (.bool true) ∧ Below w.heap.size w w':=by
 have h0:=Int.tmod_nonneg 3 ha0
 have h1:=Int.tmod_lt_of_pos a (show (0 : Int) < 3 by decide)
 have h : a.tmod 3 = 0 ∨ a.tmod 3 = 1 ∨ a.tmod 3 = 2:=by omega
 rcases h with h | h | h
 ·exact adds0_calls l A c s a w hr hc hn hx h
 ·exact adds1_calls l A c s a w hr hc hn hx h
 ·exact adds2_calls l A c s a w hr hc hn hx h
end Go.Proofs.YthhohbidjhcjeaaGreatDoor.H
namespace Go.Proofs.YthhohbidjhcjeaaGreatDoor.RPrimAdds
open Go.ChangeShapes Go.WideShapes Go.ChangeAt Go.RowKit Go.Proofs.YthhohbidjhcjeaaGreatDoorW.PrintWords Go.Proofs.YthhohbidjhcjeaaGreatDoorW.PrintMore Go.Proofs.YthhohbidjhcjeaaGreatDoor.Q Go.Proofs.YthhohbidjhcjeaaGreatDoor.Op Go.Proofs.YthhohbidjhcjeaaGreatDoor.Pl Go.Proofs.YthhohbidjhcjeaaGreatDoor.Od
set_option maxRecDepth 100000 in
theorem lifted (os : Os) (started : os.Started) (H : Type) (enc : TypeId × Value → H) :
  ReturnsInHanded {} Tryz.checked os 7 .any (fun w args => (Rows.primAddsSpec.pre enc Tryz.prog Tryz.f7 [] false w args ∧ laidMetH Tryz.prog laidTabs w) ∧ sizedMet enc Tryz.prog Tryz.f7 (OpenSpec.ofChange Rows.primAddsSpec) false w args)
   (Rows.primAddsSpec.post enc Tryz.prog Tryz.f7 false true false false):=by
 refine returnsInHanded_of_change_and (C:=Tryz.checked) (X:=fun w _ => laidMetH Tryz.prog laidTabs w) (fun _ _ _ hh h => h.of_heap hh) own started (by kernel_rfl) Tryz.func7
  (ChangeSpec.witness_shaped (enc:=enc) (C:=Tryz.checked) (os:=os) (X:=fun w _ => laidMetH Tryz.prog laidTabs w) false (World.laidAll Tryz.prog os laidTabs) #[.slice none 0 0,.string ByteArray.empty,.int .u8 0] 8 (World.laidAll_os _ _ _)
   (World.shaped_of_ZipB (by kernel_rfl) (by kernel_rfl)) (by kernel_rfl) (by kernel_rfl) (by kernel_rfl)
   (by rw [MakeChecks.laidMetH_plain _ _ _ (by kernel_rfl)]; exact laidMet_laidAll _ (by kernel_rfl) (by kernel_rfl))) ?_
 intro W base args ds gs before hval0 hW _ hsz0 hL _
 have hsz : (DataW.weightsEach Tryz.prog (Tryz.f7.params.toList ++ Rows.primAddsSpec.plain.varTypes Tryz.prog) (ds ++ gs)).all (· ≤ reachBytes) = true:=hsz0
 have hval : ∀ (j : Nat) t v,Tryz.f7.params[j]? = some t → args[j]? = some v → Value.okWide Tryz.prog W .any base t v:=hval0
 have hW':=hW
 obtain ⟨p,q,hA0,hV,rfl,hfz,hnd⟩:=hW
 have hA : DataW.TrodAll enc Tryz.prog W 0 (fun _ => true) true Tryz.f7.params.toList args.toList ds p:=hA0
 rw [Tryz.params7] at hA hval hsz
 obtain ⟨v0,vs0,d0,ds0,p0,q0,hargs,rfl,rfl,h0,r0⟩:=trodAll_cons hA
 obtain ⟨v1,vs1,d1,ds1,p1,q1,rfl,rfl,rfl,h1,r1⟩:=trodAll_cons r0
 obtain ⟨v2,vs2,d2,ds2,p2,q2,rfl,rfl,rfl,h2,r2⟩:=trodAll_cons r1
 obtain ⟨rfl,rfl,rfl⟩:=trodAll_nil r2
 obtain rfl : args = #[v0,v1,v2]:=by cases args; simp_all
 obtain ⟨rfl,rfl⟩:=trodVars_none hV
 have k0:=h0
 have lt0 : ∀ x ∈ p0,x.block < W.heap.size:=by obtain ⟨m,hm⟩:=k0; exact DataW.trod_lt m _ _ _ hm
 obtain ⟨x0,hK0,hG0⟩:=opened o22 h0 hsz (j:=0) rfl rfl
 obtain ⟨B0,u0,hc0,lu0,g0⟩:=hK0
 obtain ⟨b0,n0,m0,rfl⟩:=okWide_slice Tryz.underlying22 (hval 0 22 v0 rfl rfl)
 obtain ⟨rfl,rfl,rfl⟩ : b0 = B0 ∧ n0 = x0.length ∧ m0 = u0:=by simpa [Value.cells] using hc0
 obtain ⟨_,hb0,hg0⟩:=hG0
 have k1:=h1
 have lt1 : ∀ x ∈ p1,x.block < W.heap.size:=by obtain ⟨m,hm⟩:=k1; exact DataW.trod_lt m _ _ _ hm
 obtain ⟨x1,hK1,hG1⟩:=opened o9 h1 hsz (j:=1) rfl rfl
 obtain ⟨n1,rfl⟩:=okWide_string Tryz.underlying9 (hval 1 9 v1 rfl rfl)
 obtain rfl : x1 = n1:=by have h_ : [Value.string n1] = [Value.string x1]:=hK1; simpa using h_.symm
 have k2:=h2
 have lt2 : ∀ x ∈ p2,x.block < W.heap.size:=by obtain ⟨m,hm⟩:=k2; exact DataW.trod_lt m _ _ _ hm
 obtain ⟨x2,hK2,hG2⟩:=opened o5 h2 hsz (j:=2) rfl rfl
 obtain ⟨n2,rfl⟩:=okWide_int Tryz.underlying5 (hval 2 5 v2 rfl rfl)
 obtain rfl : x2 = n2:=by have h_ : [Value.int .u8 n2] = [Value.int .u8 x2]:=hK2; simpa using h_.symm
 have hx2 : 0 ≤ x2 ∧ x2 ≤ 255:=by simpa [Lit.wf,IntKind.min,IntKind.max,IntKind.signed,IntKind.bits] using hG2
 clear hA0 hval0 hsz0 hsz
 refine (Go.Proofs.YthhohbidjhcjeaaGreatDoor.H.adds_calls x0 b0 m0 x1 x2 W g0 lu0 (by omega) (fun x hx => (hg0 x hx).n) hx2.1 hx2.2).mono fun e W' ⟨he,bel⟩ => ?_
 subst he
 exact ⟨_,rfl,_,_,_,[],_,[],hW',trodAll_mk1 (shut_bool Tryz.underlying4 _),(trodAll_cons_mk (Below.trod laidOut (by kernel_rfl) (of_decide_eq_true (by kernel_rfl)) k0 bel lt0) (trodAll_cons_mk (Below.trod laidOut (by kernel_rfl) (of_decide_eq_true (by kernel_rfl)) k1 bel lt1) (trodAll_cons_mk (Below.trod laidOut (by kernel_rfl) (of_decide_eq_true (by kernel_rfl)) k2 bel lt2) trodAll_mk0))),rfl,bel.frame _,fun h => by cases h⟩
theorem band {a b : Bool} (ha : a = true) (hb : b = true) : (a && b) = true:=by rw [ha,hb]; rfl
set_option maxHeartbeats 4000000 in
theorem facts : joinedFacts Tryz.prog 7 Tryz.f7 Rows.primAddsSpec Rows.primAddsRow = true:=by
 unfold joinedFacts
 repeat' (with_reducible refine band ?_ ?_)
 all_goals (first | (with_reducible exact heads.1) | (rw [heads.2.1]; rfl) | (rw [heads.2.2.1]; rfl) | (as_aux_lemma => kernel_rfl))
set_option maxHeartbeats 4000000 in
theorem over : Rows.primAddsRow.holds Tryz.pinned (OpenSpec.ofChange Rows.primAddsSpec) :=
 OpenClaim.holds_of_wide 7 Tryz.f7 rfl rfl rfl rfl rfl rfl rfl ⟨rfl,rfl,rfl,rfl,rfl⟩ rfl rfl rfl rfl rfl (by as_aux_lemma => kernel_rfl) Tryz.func7 facts
  (of_decide_eq_true (by as_aux_lemma => kernel_rfl)) (by unfold Func.isWrapper; first | (rw [if_pos (by decide +kernel)]; kernel_rfl) | (rw [if_neg (by decide +kernel)]; exact ⟨rfl,rfl⟩))
  (fun os started H enc _ => lifted os started H enc)
set_option maxHeartbeats 4000000 in
theorem card : Rows.PrimAddsCardSaid :=
 Claim7.holds_tied_plain_at .later [] [.data, .pinned] true (true, "b2c3b2d2b50221d5631762a848752805bff427337fd1c8fab364110e20b5edb9") false over (fun _ h => by cases h) (by as_aux_lemma => kernel_rfl) (fun _ h => by cases h) primAdds_row_tie rfl ⟨rfl, rfl⟩ heads.2.2.2 rfl
  (fun f fn hf hfn => by
   obtain rfl : f = 7:=Option.some.inj ((show Tryz.prog.funcNamed Rows.primAddsRow.func = some 7 by as_aux_lemma => kernel_rfl).symm.trans hf) |>.symm
   obtain rfl : fn = Tryz.f7:=(Option.some.inj (Tryz.func7.symm.trans hfn)).symm
   exact ⟨by as_aux_lemma => kernel_rfl,fun j t ht => by
    rw [Tryz.params7] at ht
    have hm : t ∈ [22,9,5]:=by simpa using Array.mem_of_getElem? ht
    have hall : ([22,9,5].all fun u => !Tryz.prog.wantsStandIn u) = true:=by as_aux_lemma => kernel_rfl
    exact (show Tryz.prog.wantsStandIn t = false by simpa using List.all_eq_true.1 hall t hm)⟩)
  (by as_aux_lemma => kernel_rfl)
end Go.Proofs.YthhohbidjhcjeaaGreatDoor.RPrimAdds
namespace Go.Proofs.YthhohbidjhcjeaaGreatDoor
/-- The card of PrimAdds. -/
theorem PrimAdds_card : Rows.PrimAddsCardSaid:=RPrimAdds.card
#print axioms PrimAdds_card
end Go.Proofs.YthhohbidjhcjeaaGreatDoor
