/- The statement PrimMoves holds: whatever the input the law returns true, and the input reads behind the call as before; the listed tables are tied to the program's text. -/
import Derived.Test.YthhohbidjhcjeaaGreatDoorBM6
import Derived.Test.YthhohbidjhcjeaaGreatDoorBM8
import Derived.Test.YthhohbidjhcjeaaGreatDoorBT2
import Derived.Test.YthhohbidjhcjeaaGreatDoorRows
import Derived.Test.YthhohbidjhcjeaaGreatDoorCards
import Derived.Test.YthhohbidjhcjeaaGreatDoorTie
import Derived.WalkKit
import Derived.ProofKit
import Derived.OpenShut
import Derived.ShutString
import Derived.ChangeOld
import Derived.Below
import Derived.SizedLaws
import Derived.Lay
import Derived.LaidOnce
import Derived.LaidMore
import Derived.SevenTiedAt
namespace Go.Proofs.YthhohbidjhcjeaaGreatDoor.H
open Go.RowKit Go.Proofs.YthhohbidjhcjeaaGreatDoor.Q Go.Proofs.YthhohbidjhcjeaaGreatDoor.Pl
set_option linter.unusedVariables false
set_option linter.unusedSimpArgs false
/-- The paths that a patch is of. -/
def Rg (p : S25) (s : ByteArray) : Prop:=withinB s p.f1 = true ∨ (p.f0 = 10 ∧ withinB s p.f2 = true)
def isAdd (p : S25) : Prop:=p.f0 = 1 ∨ p.f0 = 3 ∨ p.f0 = 5
/-- Where a patch lays something new. -/
def tgt (p : S25) : ByteArray:=if p.f0 = 10 then p.f2 else p.f1
theorem self_mv (s t : ByteArray) : mv s s t = t:=by
 have:=mv_data (s:=s) (fr:=s) t (r:=[]) (by simp)
 exact data_inj (by rw [this]; simp)
/-- What is not a patch's own is as it was. -/
theorem do_else {l : List S41} {p : S25} (h : applyE l p = 0) {s : ByteArray} (hs : ¬ Rg p s) : findV (doL l p) s = findV l s:=by
 obtain ⟨ht,hp,hd⟩:=apply_zero.mp h
 have h1 : withinB s p.f1 = false:=by
  cases k : withinB s p.f1 with
  | false => rfl
  | true => exact absurd (.inl k) hs
 have hne : s ≠ p.f1:=fun e => by rw [e,within_refl] at h1; cases h1
 rcases kinds4 hp with hk | hk | ⟨h7,h9⟩ | h10
 ·obtain ⟨e1,e2⟩:=doE_add (l:=l) hk
  rw [e1] at hd
  rw [e2,ins_find ht.s (x:=newE p) (add_zero.mp hd).1]
  exact if_neg hne
 ·obtain ⟨e1,e2⟩:=doE_remove (l:=l) hk
  rw [e1] at hd
  rw [e2,del_find ht.s ((remove_zero ht.s).mp hd).1,if_neg hne]
 ·obtain ⟨e1,e2⟩:=doE_change (l:=l) h7 h9
  rw [e1] at hd
  obtain ⟨x,y,hx,hk,hc⟩:=change_zero.mp hd
  rw [e2,change_L hx hc,set_find ht.s hx ((change_f0 hc).1.trans (find_mem hx).2),if_neg hne]
 ·obtain ⟨e1,e2⟩:=doE_move (l:=l) h10
  rw [e1] at hd
  obtain ⟨⟨x0,hx0⟩,hn,hu,hr⟩:=move_zero.mp hd
  have h2 : withinB s p.f2 = false:=by
   cases k : withinB s p.f2 with
   | false => rfl
   | true => exact absurd (.inr ⟨h10,k⟩) hs
  rw [e2]
  unfold moveL
  rw [move_find ht.s (ht.none_within hn),h1,h2,if_neg (by simp),if_neg (by simp)]
/-- Behind a patch there is nothing at the path from which it moved, or took away; etc: what it writes hangs on its own paths alone. -/
theorem do_own {l k : List S41} {p : S25} (h : applyE l p = 0) (hk : Tr k) (hs : ∀ s,Rg p s → findV l s = findV k s) (hu : Up l (tgt p) → Up k (tgt p)) (hn : isAdd p → k.length ≠ 1024) :
  applyE k p = 0 ∧ ∀ s,Rg p s → findV (doL l p) s = findV (doL k p) s:=by
 obtain ⟨ht,hp,hd⟩:=apply_zero.mp h
 have hown : Rg p p.f1:=.inl (within_refl _)
 rw [apply_zero]
 refine (fun (z : doE k p = 0 ∧ ∀ s,Rg p s → findV (doL l p) s = findV (doL k p) s) => ⟨⟨hk,hp,z.1⟩,z.2⟩) ?_
 rcases kinds4 hp with hkd | hkd | ⟨h7,h9⟩ | h10
 ·obtain ⟨e1,e2⟩:=doE_add (l:=l) hkd
  obtain ⟨e3,e4⟩:=doE_add (l:=k) hkd
  rw [e1] at hd
  rw [e2,e3,e4]
  obtain ⟨g1,g2,g3⟩:=add_zero.mp hd
  have et : tgt p = p.f1:=if_neg (by omega)
  rw [et] at hu
  have g1' : findV k p.f1 = none:=by rw [← hs _ hown,g1]
  refine ⟨add_zero.mpr ⟨g1',hu g2,hn hkd⟩,fun s h => ?_⟩
  rw [ins_find ht.s (x:=newE p) g1,ins_find hk.s (x:=newE p) g1',hs s h]
 ·obtain ⟨e1,e2⟩:=doE_remove (l:=l) hkd
  obtain ⟨e3,e4⟩:=doE_remove (l:=k) hkd
  rw [e1] at hd
  rw [e2,e3,e4]
  obtain ⟨g1,g2⟩:=(remove_zero ht.s).mp hd
  have g1' : findV k p.f1 = some (newE p):=by rw [← hs _ hown,g1]
  refine ⟨(remove_zero hk.s).mpr ⟨g1',fun x hx hw => ?_⟩,fun s h => ?_⟩
  ·have hx':=find_of_mem hk.s hx
   rw [← hs _ (.inl hw)] at hx'
   exact g2 x (find_mem hx').1 hw
  ·rw [del_find ht.s g1,del_find hk.s g1',hs s h]
 ·obtain ⟨e1,e2⟩:=doE_change (l:=l) h7 h9
  obtain ⟨e3,e4⟩:=doE_change (l:=k) h7 h9
  rw [e1] at hd
  rw [e2,e3,e4]
  obtain ⟨x,y,hx,hkk,hc⟩:=change_zero.mp hd
  have hx' : findV k p.f1 = some x:=by rw [← hs _ hown,hx]
  have e:=(change_f0 hc).1.trans (find_mem hx).2
  refine ⟨change_zero.mpr ⟨x,y,hx',hkk,hc⟩,fun s h => ?_⟩
  rw [change_L hx hc,change_L hx' hc,set_find ht.s hx e,set_find hk.s hx' e,hs s h]
 ·obtain ⟨e1,e2⟩:=doE_move (l:=l) h10
  obtain ⟨e3,e4⟩:=doE_move (l:=k) h10
  rw [e1] at hd
  rw [e2,e3,e4]
  obtain ⟨⟨x0,hx0⟩,g1,g2,g3⟩:=move_zero.mp hd
  have et : tgt p = p.f2:=if_pos h10
  rw [et] at hu
  have g1' : findV k p.f2 = none:=by rw [← hs _ (.inr ⟨h10,within_refl _⟩),g1]
  have w1:=ht.none_within g1
  have w2:=hk.none_within g1'
  refine ⟨move_zero.mpr ⟨⟨x0,by rw [← hs _ hown,hx0]⟩,g1',hu g2,fun x hx => ?_⟩,fun s h => ?_⟩
  ·cases hw : withinB x.f0 p.f1 with
   | false => rw [mvP_out _ hw]; exact ((thing_iff x).mp (hk.t x hx)).1
   | true =>
    have hx':=find_of_mem hk.s hx
    rw [← hs _ (.inl hw)] at hx'
    exact g3 x (find_mem hx').1
  ·unfold moveL
   rw [move_find ht.s w1,move_find hk.s w2]
   cases k2 : withinB s p.f2 with
   | true =>
    rw [if_pos rfl,if_pos rfl,hs _ (.inl (mv_within p.f1 k2))]
   | false =>
    cases k1 : withinB s p.f1 with
    | true => simp only [Bool.false_eq_true,if_false,if_true]
    | false =>
     simp only [Bool.false_eq_true,if_false]
     exact hs s h
/-! ### lengths -/
def dLen (p : S25) : Int:=if p.f0 = 1 ∨ p.f0 = 3 ∨ p.f0 = 5 then 1 else if p.f0 = 2 ∨ p.f0 = 4 ∨ p.f0 = 6 then -1 else 0
theorem do_len {l : List S41} {p : S25} (h : applyE l p = 0) : ((doL l p).length : Int) = l.length + dLen p:=by
 obtain ⟨ht,hp,hd⟩:=apply_zero.mp h
 unfold dLen
 rcases kinds4 hp with hk | hk | ⟨h7,h9⟩ | h10
 ·obtain ⟨e1,e2⟩:=doE_add (l:=l) hk
  rw [e2,if_pos hk,ins_len]; omega
 ·obtain ⟨e1,e2⟩:=doE_remove (l:=l) hk
  rw [e1] at hd
  have:=del_len ht.s ((remove_zero ht.s).mp hd).1
  rw [e2,if_neg (by omega),if_pos hk]; omega
 ·obtain ⟨e1,e2⟩:=doE_change (l:=l) h7 h9
  rw [e2,if_neg (by omega),if_neg (by omega)]
  unfold changeL
  rw [set_len]; omega
 ·obtain ⟨e1,e2⟩:=doE_move (l:=l) h10
  rw [e2,if_neg (by omega),if_neg (by omega)]
  unfold moveL
  rw [sort_len,List.length_map]; omega
/-! ### apart ones -/
def Far (p q : S25) : Prop:=∀ s,¬ (Rg p s ∧ Rg q s)
/-- No directory of a new thing of one lies within the other's paths. -/
theorem far_up {l : List S41} {p q : S25} (h : applyE l p = 0) (hf : Far p q) (hq : Rg q (tgt q)) : Up (doL l p) (tgt q) ↔ Up l (tgt q):=by
 have key : ∀ u,parentV (tgt q) = some u → findV (doL l p) u = findV l u:=fun u hu => do_else h fun hr => by
  refine hf (tgt q) ⟨?_,hq⟩
  rcases hr with hr | ⟨h10,hr⟩
  ·exact .inl (within_trans (parent_within hu) hr)
  ·exact .inr ⟨h10,within_trans (parent_within hu) hr⟩
 unfold Up
 constructor
 ·intro k u hu
  obtain ⟨y,hy⟩:=k u hu
  rw [key u hu] at hy
  exact ⟨y,hy⟩
 ·intro k u hu
  obtain ⟨y,hy⟩:=k u hu
  rw [← key u hu] at hy
  exact ⟨y,hy⟩
theorem rg_tgt (p : S25) : Rg p (tgt p):=by
 unfold tgt
 split
 ·rename_i h; exact .inr ⟨h,within_refl _⟩
 ·exact .inl (within_refl _)
/-- Two patches that lie apart, done one behind the other, can be done the other way about (unless the tree is full), and make the same. -/
theorem swap_far {l : List S41} {p q : S25} (hf : Far p q) (h1 : applyE l p = 0) (h2 : applyE (doL l p) q = 0) (hn : isAdd q → l.length ≠ 1024) :
  applyE l q = 0 ∧ applyE (doL l q) p = 0 ∧ doL (doL l q) p = doL (doL l p) q:=by
 have hf' : Far q p:=fun s h => hf s h.symm
 have ht:=(apply_zero.mp h1).1
 have ht2:=apply_tree h2
 obtain ⟨a1,a2⟩:=do_own h2 ht (fun s hs => do_else h1 fun hr => hf s ⟨hr,hs⟩) (far_up h1 hf (rg_tgt q)).mp hn
 have ht3:=apply_tree a1
 have hlen : isAdd p → (doL l q).length ≠ 1024:=fun hp => by
  have e1:=do_len h1
  have e2:=do_len h2
  have e3:=do_len a1
  have e4 : dLen p = 1:=if_pos hp
  have:=ht2.n
  omega
 obtain ⟨b1,b2⟩:=do_own h1 ht3 (fun s hs => (do_else a1 fun hr => hf s ⟨hs,hr⟩).symm) (far_up a1 hf' (rg_tgt p)).mpr hlen
 refine ⟨a1,b1,srt_ext (apply_tree b1).s ht2.s fun s => ?_⟩
 by_cases hp : Rg p s
 ·have hq : ¬ Rg q s:=fun k => hf s ⟨hp,k⟩
  rw [← b2 s hp,do_else h2 hq]
 ·rw [do_else b1 hp]
  by_cases hq : Rg q s
  ·rw [← a2 s hq]
  ·rw [do_else a1 hq,do_else h2 hq,do_else h1 hp]
end Go.Proofs.YthhohbidjhcjeaaGreatDoor.H
namespace Go.Proofs.YthhohbidjhcjeaaGreatDoor.H
open Go.RowKit Go.Proofs.YthhohbidjhcjeaaGreatDoor.Q Go.Proofs.YthhohbidjhcjeaaGreatDoor.Pl
set_option linter.unusedVariables false
set_option linter.unusedSimpArgs false
theorem apart_iff (a b : ByteArray) : apartB a b = true ↔ withinB a b = false ∧ withinB b a = false:=by
 unfold apartB
 cases withinB a b <;> cases withinB b a <;> simp
theorem right_ne {s : ByteArray} (h : rightB s = true) : s ≠ e0:=by
 rintro rfl
 have : rightB e0 = false:=by decide +kernel
 rw [this] at h; cases h
/-- PrimTree: things apart from a patch's paths are as they were. -/
theorem tree_else {l : List S41} {p : S25} (h : applyE l p = 0) {x : S41} (hx : x ∈ l) (h1 : apartB x.f0 p.f1 = true) (h2 : p.f2 ≠ e0 → p.f0 = 10 → apartB x.f0 p.f2 = true) : findV (doL l p) x.f0 = some x:=by
 obtain ⟨ht,hp,hd⟩:=apply_zero.mp h
 rw [do_else h,find_of_mem ht.s hx]
 rintro (k | ⟨h10,k⟩)
 ·rw [((apart_iff _ _).mp h1).1] at k; cases k
 ·have:=h2 (right_ne (prim_move hp h10).1) h10
  rw [((apart_iff _ _).mp this).1] at k; cases k
/-- PrimCounts: each thing that is there behind a move was there ahead. -/
theorem move_was {l : List S41} {p : S25} (h : applyE l p = 0) (h10 : p.f0 = 10) {y : S41} (hy : y ∈ doL l p) : findV l (mvP y.f0 p.f2 p.f1) = some { y with f0:=mvP y.f0 p.f2 p.f1 }:=by
 have hT:=apply_tree h
 obtain ⟨ht,hp,hd⟩:=apply_zero.mp h
 have e:=(doE_move (l:=l) h10).2
 rw [(doE_move h10).1] at hd
 obtain ⟨⟨x0,hx0⟩,hn,hu,hr⟩:=move_zero.mp hd
 have hnw:=ht.none_within hn
 rw [e] at hy
 unfold moveL at hy
 rw [sort_mem] at hy
 obtain ⟨z,hz,rfl⟩:=List.mem_map.mp hy
 have e2 : mvP (mvX p.f1 p.f2 z).f0 p.f2 p.f1 = z.f0:=mvP_back (hnw z hz)
 rw [e2,find_of_mem ht.s hz]
 rfl
theorem rd_nil_find (s : ByteArray) : findV [] s = none:=rfl
/-- A patch that adds nothing but a thing of a kind at a path. -/
def addP (k : Int) (path : ByteArray) : S25:=⟨k,path,e0,e0,0,[],[]⟩
theorem prim_addP {k : Int} (h1 : 1 ≤ k) (h6 : k ≤ 6) (path : ByteArray) : primB (addP k path) = rightB path:=by
 have e : e0.toList = ([] : List UInt8):=by rw [toList_data]; rfl
 unfold primB kindB listedB addP
 dsimp only
 rw [if_neg (by omega),if_neg (by omega),if_pos e,if_neg (by omega),if_neg (by omega),e]
 have a : decide (k ≥ 1) = true:=decide_eq_true h1
 have b : decide (k ≤ 6) = true:=decide_eq_true h6
 rw [a,b]
 simp
/-- Can a thing be added at a path? -/
def mayB (l : List S41) (path : ByteArray) : Bool:=rightB path && (findV l path).isNone && (match parentV path with | none => true | some u => match findV l u with | none => false | some d => decide (d.f1 = 1))
theorem may_iff (l : List S41) (path : ByteArray) : mayB l path = true ↔ rightB path = true ∧ findV l path = none ∧ Up l path:=by
 unfold mayB Up
 simp only [Bool.and_eq_true,Option.isNone_iff_eq_none]
 cases hp : parentV path with
 | none => simp
 | some u =>
  cases hf : findV l u with
  | none => simp [hf]
  | some d => simp [hf,and_assoc]
theorem adds_zero {l : List S41} (ht : Tr l) (hl : l.length < 1024) {k : Int} (hk : k = 1 ∨ k = 3 ∨ k = 5) (path : ByteArray) : applyE l (addP k path) = 0 ↔ mayB l path = true:=by
 rw [apply_zero,may_iff,prim_addP (by omega) (by omega),(doE_add (l:=l) (p:=addP k path) hk).1,add_zero]
 constructor
 ·rintro ⟨_,b,c,d,_⟩; exact ⟨b,c,d⟩
 ·rintro ⟨b,c,d⟩; exact ⟨ht,b,c,d,by omega⟩
theorem adds_laws {l : List S41} {k : Int} (hk : k = 1 ∨ k = 3 ∨ k = 5) {path : ByteArray} (h : applyE l (addP k path) = 0) :
  findV (doL l (addP k path)) path = some (newE (addP k path)) ∧ applyE (doL l (addP k path)) (addP k path) = 71 ∧ applyE (doL l (addP k path)) (addP (k + 1) path) = 0 ∧ doL (doL l (addP k path)) (addP (k + 1) path) = l:=by
 obtain ⟨u1,u2⟩:=undo h
 have hT:=apply_tree h
 obtain ⟨ht,hp,hd⟩:=apply_zero.mp h
 have ei : invS (addP k path) = addP (k + 1) path:=by
  rcases hk with rfl | rfl | rfl <;> rfl
 rw [ei] at u1 u2
 have hf : findV (doL l (addP k path)) path = some (newE (addP k path)):=by
  rw [(doE_add (l:=l) (p:=addP k path) hk).1] at hd
  rw [(doE_add (l:=l) (p:=addP k path) hk).2,ins_find ht.s (x:=newE (addP k path)) (add_zero.mp hd).1]
  exact if_pos rfl
 refine ⟨hf,?_,u1,u2⟩
 unfold applyE
 rw [if_pos (by rw [tree_iff.mpr hT,hp]; rfl),(doE_add (p:=addP k path) hk).1]
 have : roomV (doL l (addP k path)) path = 71:=by unfold roomV; rw [hf]; rfl
 unfold addE
 show (if roomV (doL l (addP k path)) path = 0 then _ else roomV (doL l (addP k path)) path) = 71
 rw [this]; rfl
/-- The place of a thing in a tree. -/
theorem low_at {l : List S41} (hs : Srt l) {i : Nat} (hi : i < l.length) : lowB l (l.getD i z41).f0 = i ∧ findV l (l.getD i z41).f0 = some (l.getD i z41):=by
 have hm : l.getD i z41 ∈ l:=by rw [getD_get hi]; exact List.getElem_mem hi
 have hf:=find_of_mem hs hm
 obtain ⟨h1,h2⟩:=(has_find hs _).2 _ hf
 refine ⟨?_,hf⟩
 rcases Nat.lt_trichotomy (lowB l (l.getD i z41).f0) i with h | h | h
 ·have:=srt_get hs h hi
  rw [h1,ltP_irrefl] at this; cases this
 ·exact h
 ·have:=srt_get hs h h2
  rw [h1,ltP_irrefl] at this; cases this
/-- A change of lines. -/
def linesP (path : ByteArray) (a : Int) (o n : List ByteArray) : S25:=⟨7,path,e0,e0,a,o,n⟩
theorem lines_laws {l : List S41} (ht : Tr l) {i : Nat} (hi : i < l.length) {a : Int} {o n : List ByteArray} (hp : primB (linesP (l.getD i z41).f0 a o n) = true) :
  ((l.getD i z41).f1 ≠ 2 → applyE l (linesP (l.getD i z41).f0 a o n) = 73) ∧
  ((l.getD i z41).f1 = 2 → hunkV (l.getD i z41).f2 a o n = none → applyE l (linesP (l.getD i z41).f0 a o n) = 81) ∧
  ((l.getD i z41).f1 = 2 → ∀ y,hunkV (l.getD i z41).f2 a o n = some y → applyE l (linesP (l.getD i z41).f0 a o n) = 0 ∧ doL l (linesP (l.getD i z41).f0 a o n) = l.set i { (l.getD i z41) with f2:=y }):=by
 obtain ⟨hlo,hf⟩:=low_at ht.s hi
 obtain ⟨x,hx⟩ : ∃ x,l.getD i z41 = x:=⟨_,rfl⟩
 rw [hx] at hlo hf hp ⊢
 have hap : applyE l (linesP x.f0 a o n) = changeE l (linesP x.f0 a o n):=by
  unfold applyE
  rw [if_pos (by rw [tree_iff.mpr ht,hp]; rfl)]
  exact (doE_change (l:=l) (p:=linesP x.f0 a o n) (by show (7 : Int) ≤ 7; decide) (by show (7 : Int) ≤ 9; decide)).1
 have hth : thereV l x.f0 7 = if x.f1 = 2 then 0 else 73:=by unfold thereV; rw [hf]; rfl
 have hta : thingAt l x.f0 = x:=by unfold thingAt; rw [hf]; rfl
 have hce : changeE l (linesP x.f0 a o n) = if thereV l x.f0 7 = 0 then (if (changeV x (linesP x.f0 a o n)).isSome then 0 else 81) else thereV l x.f0 7:=by
  unfold changeE
  show (if thereV l x.f0 7 = 0 then (if (changeV (thingAt l x.f0) (linesP x.f0 a o n)).isSome then 0 else 81) else thereV l x.f0 7) = _
  rw [hta]
 have hcv : changeV x (linesP x.f0 a o n) = (hunkV x.f2 a o n).map (fun l => { x with f2:=l }):=rfl
 rw [hap,hce,hth,hcv]
 refine ⟨fun h => ?_,fun h1 h2 => ?_,fun h1 y h2 => ⟨?_,?_⟩⟩
 ·rw [if_neg h]; rfl
 ·rw [if_pos h1,h2]; rfl
 ·rw [if_pos h1,h2]; rfl
 ·rw [(doE_change (l:=l) (p:=linesP x.f0 a o n) (by show (7 : Int) ≤ 7; decide) (by show (7 : Int) ≤ 9; decide)).2,change_L (p:=linesP x.f0 a o n) hf (by rw [hcv,h2]; rfl)]
  unfold setL
  show l.set (lowB l x.f0) _ = _
  rw [hlo]
/-- A move. -/
def moveP (fr to_ : ByteArray) : S25:=⟨10,fr,to_,e0,0,[],[]⟩
theorem moves_laws {l : List S41} {fr to_ : ByteArray} (h : applyE l (moveP fr to_) = 0) :
  findV l to_ = none ∧ findV (doL l (moveP fr to_)) fr = none ∧ (findV (doL l (moveP fr to_)) to_).isSome = true ∧ applyE (doL l (moveP fr to_)) (moveP to_ fr) = 0 ∧ doL (doL l (moveP fr to_)) (moveP to_ fr) = l:=by
 obtain ⟨u1,u2⟩:=undo h
 obtain ⟨ht,hp,hd⟩:=apply_zero.mp h
 have ei : invS (moveP fr to_) = moveP to_ fr:=rfl
 rw [ei] at u1 u2
 rw [(doE_move (p:=moveP fr to_) rfl).1] at hd
 obtain ⟨⟨x0,hx0⟩,hn,hu,hr⟩:=move_zero.mp hd
 obtain ⟨b1,b2,b3⟩:=apply_zero.mp u1
 rw [(doE_move (p:=moveP to_ fr) rfl).1] at b3
 obtain ⟨⟨x1,hx1⟩,hn1,_,_⟩:=move_zero.mp b3
 have hx2 : findV (doL l (moveP fr to_)) to_ = some x1:=hx1
 exact ⟨hn,hn1,by rw [hx2]; rfl,u1,u2⟩
end Go.Proofs.YthhohbidjhcjeaaGreatDoor.H
namespace Go.Proofs.YthhohbidjhcjeaaGreatDoor.H
open Go.RowKit Go.Shelf Go.Proofs.YthhohbidjhcjeaaGreatDoorW.PrintWords Go.Proofs.YthhohbidjhcjeaaGreatDoorW.PrintLast Go.Proofs.YthhohbidjhcjeaaGreatDoorW.PrintMore
open Go.Proofs.YthhohbidjhcjeaaGreatDoor.Q Go.Proofs.YthhohbidjhcjeaaGreatDoor.Pl
set_option linter.unusedVariables false
set_option linter.unusedSimpArgs false
/-- The reference's Right of trees, of small things, asked at any world that grew. -/
theorem TR_at (l : List S41) (A : Option Addr) (c : Nat) (w : World) (hr : Kd.C k41 w A l.length l) (hc : l.length ≤ c) (hs : ∀ x ∈ l,Small x) :
  ∀ U,Below w.heap.size w U → Calls Tryz.prog 31 #[.slice A l.length c] U fun e w' => e = .returned (.bool (treeB l)) ∧ Below U.heap.size U w':=fun U hU =>
 treeR_at l A c U (Kd.C_below hr hU) hc (fun x hx => by have:=(hs x hx).p; omega) (fun x hx => by have:=(hs x hx).n; omega) (fun x hx s hm => by have:=(hs x hx).s s hm; omega)
set_option maxHeartbeats 4000000 in
set_option maxRecDepth 1000000 in
theorem moves_calls (l : List S41) (A : Option Addr) (c : Nat) (a : Int) (s : ByteArray) (w : World) (hr : Kd.C k41 w A l.length l) (hc : l.length ≤ c) (hn : l.length ≤ 140737488355328) (hx : ∀ x ∈ l,x.f2.length ≤ 140737488355328) (ha0 : 0 ≤ a) (ha1 : a ≤ 255) :
  Calls Tryz.prog 9 #[.slice A l.length c,.int .u8 a,.string s] w fun e w' => e = .returned (.bool true) ∧ Below w.heap.size w w':=by
 obtain ⟨g,hgs,hG⟩:=G_at l A c w hr hc hn hx
 replace hG:=Aside0.mk hG
 replace hgs:=Aside0.mk hgs
 replace hn:=Aside0.mk hn
 replace hx:=Aside0.mk hx
 replace hr:=Aside0.mk hr
 replace hc:=Aside0.mk hc
 go_enter Tryz.func9,Tryz.ntmps9
 go_wp2_with (fail)
 refine (head08_calls _).mono ?_
 rintro e w1 ⟨rfl,hb1⟩
 have hs1 : Below w.heap.size w w1:=two_steps (by repeat (first | exact Below.refl _ _ | refine Below.setCell ?_ (by simp <;> omega) _ | refine Below.alloc ?_ (by simp <;> omega) _ | refine Below.drew ?_)) hb1
 have hw1 : Below w.heap.size w w1:=(Below.refl w.heap.size w).trans (hs1.mono (Below.refl w.heap.size w).size)
 clear hb1
 go_wp2_with (fail)
 refine (hG.out _ (by repeat (first | with_reducible exact hw1 | refine Below.setCell ?_ (by have:=hw1.size; simp <;> omega) _ | refine Below.alloc ?_ (by have:=hw1.size; simp <;> omega) _ | refine Below.drew ?_))).mono ?_
 rintro e w2 ⟨rfl,hb2⟩
 have hs2 : Below w1.heap.size w1 w2:=two_steps (by repeat (first | exact Below.refl _ _ | refine Below.setCell ?_ (by simp <;> omega) _ | refine Below.alloc ?_ (by simp <;> omega) _ | refine Below.drew ?_)) hb2
 have hw2 : Below w.heap.size w w2:=hw1.trans (hs2.mono hw1.size)
 clear hb2
 cases g with
 | true =>
  go_wp2
  go_ret
  exact ⟨rfl,(by repeat (first | with_reducible exact hw2 | refine Below.setCell ?_ (by have:=hw2.size; simp <;> omega) _ | refine Below.alloc ?_ (by have:=hw2.size; simp <;> omega) _ | refine Below.drew ?_))⟩
 | false =>
  have hsm:=Aside0.mk (hgs.out (by trivial))
  have hT:=Aside0.mk (TR_at l A c w hr.out hc.out hsm.out.2)
  by_cases hs : s.size ≤ 1000
  ·have hb1 : decide ((s.size : Int) > 1000) = false:=decide_eq_false (by omega)
   have hb2 : decide ((1000 : Int) < (s.size : Int)) = false:=decide_eq_false (by omega)
   have hb3 : decide (1000 < s.size) = false:=decide_eq_false (by omega)
   have hb4 : (1000 < s.size) = False:=eq_false (by omega)
   replace hs:=Aside0.mk hs
   cases ht : treeB l with
   | false =>
    rw [ht] at hT
    go_wp2_with (fail)
    refine (hT.out _ (by repeat (first | with_reducible exact hw2 | refine Below.setCell ?_ (by have:=hw2.size; simp <;> omega) _ | refine Below.alloc ?_ (by have:=hw2.size; simp <;> omega) _ | refine Below.drew ?_))).mono ?_
    rintro e w3 ⟨rfl,hb3⟩
    have hs3 : Below w2.heap.size w2 w3:=two_steps (by repeat (first | exact Below.refl _ _ | refine Below.setCell ?_ (by simp <;> omega) _ | refine Below.alloc ?_ (by simp <;> omega) _ | refine Below.drew ?_)) hb3
    have hw3 : Below w.heap.size w w3:=hw2.trans (hs3.mono hw2.size)
    clear hb3
    go_wp2
    go_ret
    exact ⟨rfl,(by repeat (first | with_reducible exact hw3 | refine Below.setCell ?_ (by have:=hw3.size; simp <;> omega) _ | refine Below.alloc ?_ (by have:=hw3.size; simp <;> omega) _ | refine Below.drew ?_))⟩
   | true =>
    rw [ht] at hT
    replace ht:=Aside0.mk ht
    go_wp2_with (fail)
    refine (hT.out _ (by repeat (first | with_reducible exact hw2 | refine Below.setCell ?_ (by have:=hw2.size; simp <;> omega) _ | refine Below.alloc ?_ (by have:=hw2.size; simp <;> omega) _ | refine Below.drew ?_))).mono ?_
    rintro e w3 ⟨rfl,hb3⟩
    have hs3 : Below w2.heap.size w2 w3:=two_steps (by repeat (first | exact Below.refl _ _ | refine Below.setCell ?_ (by simp <;> omega) _ | refine Below.alloc ?_ (by simp <;> omega) _ | refine Below.drew ?_)) hb3
    have hw3 : Below w.heap.size w w3:=hw2.trans (hs3.mono hw2.size)
    clear hb3
    rcases Nat.eq_zero_or_pos l.length with hz | hpos
    ·have hzi : ((l.length : Int) == 0) = true:=by rw [hz]; rfl
     have hz2:=Aside0.mk hz
     clear hz
     go_wp2
     go_ret
     exact ⟨rfl,(by repeat (first | with_reducible exact hw3 | refine Below.setCell ?_ (by have:=hw3.size; simp <;> omega) _ | refine Below.alloc ?_ (by have:=hw3.size; simp <;> omega) _ | refine Below.drew ?_))⟩
    ·have hzi : ((l.length : Int) == 0) = false:=by rw [beq_eq_false_iff_ne]; omega
     obtain ⟨i,hi⟩ : ∃ i : Nat,(i : Int) = a.tmod l.length:=⟨(a.tmod l.length).toNat,by rw [Int.toNat_of_nonneg (Int.tmod_nonneg _ ha0)]⟩
     have hlt : i < l.length:=by have:=Int.tmod_lt_of_pos a (show (0 : Int) < (l.length : Int) by omega); omega
     have hwa : IntKind.i64.wrap a = a:=wrap64_same (by omega) (by omega)
     have hi' : a.tmod (l.length : Int) = (i : Int):=hi.symm
     clear hi
     have i0 : (0 : Int) ≤ (i : Int):=by omega
     have i1 : (i : Int) < (l.length : Int):=by omega
     obtain ⟨ad,X,d,rfl,rx,q0,q1,q2,q3⟩:=ent_at (Kd.C_below hr.out hw3) i hlt rfl
     obtain ⟨x,hxe⟩ : ∃ x,l.getD i z41 = x:=⟨_,rfl⟩
     rw [hxe] at rx q0 q1 q2 q3
     replace rx:=Aside0.mk rx
     replace hxe:=Aside0.mk hxe
     have hlen0 : ((l.length : Int) = 0) = False:=eq_false (by omega)
     go_upto_region 5 with (fail)
     have hxs:=hsm.out.2 x (by rw [← hxe.out,getD_get hlt]; exact List.getElem_mem hlt)
     have hsq : Aside0 (SmallQ (moveP x.f0 s)):=⟨⟨by have:=hxs.p; show x.f0.size < 4000; omega,by have:=hs.out; show s.size < 4000; omega,by show e0.size < 4000; decide,by show 0 < 4000; decide,by show 0 < 4000; decide,(fun t ht => (by cases ht)),(fun t ht => (by cases ht))⟩⟩
     have hsq2 : Aside0 (SmallQ (moveP s x.f0)):=⟨⟨by have:=hs.out; show s.size < 4000; omega,by have:=hxs.p; show x.f0.size < 4000; omega,by show e0.size < 4000; decide,by show 0 < 4000; decide,by show 0 < 4000; decide,(fun t ht => (by cases ht)),(fun t ht => (by cases ht))⟩⟩
     clear hxs
     have hA:=fun U h => A_at l (some ad) c (moveP x.f0 s) none 0 none 0 w hr.out ⟨strC0 _ _,Nat.le_refl 0,strC0 _ _,Nat.le_refl 0⟩ ((small_bnd hsm.out.2).fit (by decide)) hsq.out.fit U h
     have hml:=fun h => moves_laws (l:=l) (fr:=x.f0) (to_:=s) h
     have hbM:=fun h => bnd_do (small_bnd hsm.out.2) hsq.out (p:=moveP x.f0 s) (l:=l) h
     have hTM:=fun h => apply_tree (l:=l) (p:=moveP x.f0 s) h
     obtain ⟨E,hE⟩ : ∃ E,applyE l (moveP x.f0 s) = E:=⟨_,rfl⟩
     obtain ⟨M,hM⟩ : ∃ M,doL l (moveP x.f0 s) = M:=⟨_,rfl⟩
     rw [hE,hM] at hA hml hbM hTM
     replace hA:=Aside0.mk hA
     replace hml:=Aside0.mk hml
     replace hbM:=Aside0.mk hbM
     replace hTM:=Aside0.mk hTM
     clear hE hM q0 q1 q2 q3
     have hF:=fun U h => find_at l (some ad) c s w hr.out hc.out hn.out U h
     obtain ⟨th,hth⟩ : ∃ th,(findV l s).isSome = th:=⟨_,rfl⟩
     obtain ⟨y,hy⟩ : ∃ y,thingAt l s = y:=⟨_,rfl⟩
     rw [hth,hy] at hF
     replace hF:=Aside0.mk hF
     replace hth:=Aside0.mk hth
     clear hy
     go_wp2_with (fail)
     refine (hA.out _ (by repeat (first | with_reducible exact hw3 | refine Below.setCell ?_ (by have:=hw3.size; simp <;> omega) _ | refine Below.alloc ?_ (by have:=hw3.size; simp <;> omega) _ | refine Below.drew ?_))).mono ?_
     rintro e w4 ⟨S,rfl,hb4,hS,hSn⟩
     have hs4 : Below w3.heap.size w3 w4:=two_steps (by repeat (first | exact Below.refl _ _ | refine Below.setCell ?_ (by simp <;> omega) _ | refine Below.alloc ?_ (by simp <;> omega) _ | refine Below.drew ?_)) hb4
     have hw4 : Below w.heap.size w w4:=hw3.trans (hs4.mono hw3.size)
     replace hS:=Aside0.mk hS
     replace hSn:=Aside0.mk hSn
     clear hb4
     by_cases hz : E = 0
     ·subst hz
      obtain ⟨A4,c4,rfl,hl4,hC4⟩:=hS.out (by trivial)
      clear hS hSn
      replace hC4:=Aside0.mk hC4
      replace hl4:=Aside0.mk hl4
      obtain ⟨m1,m2,m3,m4,m5⟩:=hml.out rfl
      have hthf : th = false:=by rw [← hth.out,m1]; rfl
      subst hthf
      replace hbM:=Aside0.mk (hbM.out rfl)
      have hMn : Aside0 (M.length ≤ 140737488355328):=⟨by have:=(hTM.out rfl).n; omega⟩
      have hF1:=fun U h => find_at M A4 c4 x.f0 w4 hC4.out hl4.out hMn.out U h
      have hF2:=fun U h => find_at M A4 c4 s w4 hC4.out hl4.out hMn.out U h
      rw [m2] at hF1
      rw [m3] at hF2
      obtain ⟨y1,hy1⟩ : ∃ y,thingAt M x.f0 = y:=⟨_,rfl⟩
      obtain ⟨y2,hy2⟩ : ∃ y,thingAt M s = y:=⟨_,rfl⟩
      rw [hy1] at hF1
      rw [hy2] at hF2
      have hA2:=fun U h => A_at M A4 c4 (moveP s x.f0) none 0 none 0 w4 hC4.out ⟨strC0 _ _,Nat.le_refl 0,strC0 _ _,Nat.le_refl 0⟩ (hbM.out.fit (by decide)) hsq2.out.fit U h
      rw [m4,m5] at hA2
      replace hF1:=Aside0.mk hF1
      replace hF2:=Aside0.mk hF2
      replace hA2:=Aside0.mk hA2
      clear hml hTM hy1 hy2 m1 m2 m3 m4 m5
      go_wp2_with (fail)
      refine (hF.out _ (by repeat (first | with_reducible exact hw4 | refine Below.setCell ?_ (by have:=hw4.size; simp <;> omega) _ | refine Below.alloc ?_ (by have:=hw4.size; simp <;> omega) _ | refine Below.drew ?_))).mono ?_
      rintro e w5 ⟨X2,d2,rfl,hd2,hX2,hb5⟩
      have hs5 : Below w4.heap.size w4 w5:=two_steps (by repeat (first | exact Below.refl _ _ | refine Below.setCell ?_ (by simp <;> omega) _ | refine Below.alloc ?_ (by simp <;> omega) _ | refine Below.drew ?_)) hb5
      have hw5 : Below w.heap.size w w5:=hw4.trans (hs5.mono hw4.size)
      clear hd2 hX2
      clear hb5
      have hk:=hs5
      go_wp2_with (fail)
      refine (hF1.out _ (by repeat (first | with_reducible exact hk | refine Below.setCell ?_ (by have:=hk.size; simp <;> omega) _ | refine Below.alloc ?_ (by have:=hk.size; simp <;> omega) _ | refine Below.drew ?_))).mono ?_
      rintro e w6 ⟨X2,d2,rfl,hd2,hX2,hb6⟩
      have hs6 : Below w5.heap.size w5 w6:=two_steps (by repeat (first | exact Below.refl _ _ | refine Below.setCell ?_ (by simp <;> omega) _ | refine Below.alloc ?_ (by simp <;> omega) _ | refine Below.drew ?_)) hb6
      have hw6 : Below w.heap.size w w6:=hw5.trans (hs6.mono hw5.size)
      clear hd2 hX2
      clear hb6
      replace hk:=hk.trans (hs6.mono hk.size)
      go_wp2_with (fail)
      refine (hF2.out _ (by repeat (first | with_reducible exact hk | refine Below.setCell ?_ (by have:=hk.size; simp <;> omega) _ | refine Below.alloc ?_ (by have:=hk.size; simp <;> omega) _ | refine Below.drew ?_))).mono ?_
      rintro e w7 ⟨X2,d2,rfl,hd2,hX2,hb7⟩
      have hs7 : Below w6.heap.size w6 w7:=two_steps (by repeat (first | exact Below.refl _ _ | refine Below.setCell ?_ (by simp <;> omega) _ | refine Below.alloc ?_ (by simp <;> omega) _ | refine Below.drew ?_)) hb7
      have hw7 : Below w.heap.size w w7:=hw6.trans (hs7.mono hw6.size)
      clear hd2 hX2
      clear hb7
      replace hk:=hk.trans (hs7.mono hk.size)
      go_wp2_with (fail)
      refine (hA2.out _ (by repeat (first | with_reducible exact hk | refine Below.setCell ?_ (by have:=hk.size; simp <;> omega) _ | refine Below.alloc ?_ (by have:=hk.size; simp <;> omega) _ | refine Below.drew ?_))).mono ?_
      rintro e w8 ⟨S,rfl,hb8,hS,-⟩
      have hs8 : Below w7.heap.size w7 w8:=two_steps (by repeat (first | exact Below.refl _ _ | refine Below.setCell ?_ (by simp <;> omega) _ | refine Below.alloc ?_ (by simp <;> omega) _ | refine Below.drew ?_)) hb8
      have hw8 : Below w.heap.size w w8:=hw7.trans (hs8.mono hw7.size)
      obtain ⟨A7,c7,rfl,hl7,hC7⟩:=hS (by trivial)
      clear hS
      replace hC7:=Aside0.mk hC7
      replace hl7:=Aside0.mk hl7
      clear hb8
      go_wp2_with (fail)
      refine (sameE_at l hn.out hx.out A7 c7 (some ad) c _ (Kd.C_below hC7.out (Below.refl _ _)) hl7.out (Kd.C_below hr.out (by repeat (first | with_reducible exact hw8 | refine Below.setCell ?_ (by have:=hw8.size; simp <;> omega) _ | refine Below.alloc ?_ (by have:=hw8.size; simp <;> omega) _ | refine Below.drew ?_))) hc.out).mono ?_
      rintro e w9 ⟨rfl,hb9⟩
      have hs9 : Below w8.heap.size w8 w9:=two_steps (by repeat (first | exact Below.refl _ _ | refine Below.setCell ?_ (by simp <;> omega) _ | refine Below.alloc ?_ (by simp <;> omega) _ | refine Below.drew ?_)) hb9
      have hw9 : Below w.heap.size w w9:=hw8.trans (hs9.mono hw8.size)
      clear hb9
      go_wp2
      go_ret
      exact ⟨rfl,(by repeat (first | with_reducible exact hw9 | refine Below.setCell ?_ (by have:=hw9.size; simp <;> omega) _ | refine Below.alloc ?_ (by have:=hw9.size; simp <;> omega) _ | refine Below.drew ?_))⟩
     ·skip
      have hne : (E != 0) = true:=by rw [bne_iff_ne]; exact hz
      have hne2 : (E == 0) = false:=by rw [beq_eq_false_iff_ne]; exact hz
      have hS':=hSn.out hz
      subst hS'
      clear hz hS hSn
      go_wp2_with (fail)
      refine (hF.out _ (by repeat (first | with_reducible exact hw4 | refine Below.setCell ?_ (by have:=hw4.size; simp <;> omega) _ | refine Below.alloc ?_ (by have:=hw4.size; simp <;> omega) _ | refine Below.drew ?_))).mono ?_
      rintro e w5 ⟨X2,d2,rfl,hd2,hX2,hb5⟩
      have hs5 : Below w4.heap.size w4 w5:=two_steps (by repeat (first | exact Below.refl _ _ | refine Below.setCell ?_ (by simp <;> omega) _ | refine Below.alloc ?_ (by simp <;> omega) _ | refine Below.drew ?_)) hb5
      have hw5 : Below w.heap.size w w5:=hw4.trans (hs5.mono hw4.size)
      clear hd2 hX2
      clear hb5
      go_wp2
      go_ret
      exact ⟨rfl,(by repeat (first | with_reducible exact hw5 | refine Below.setCell ?_ (by have:=hw5.size; simp <;> omega) _ | refine Below.alloc ?_ (by have:=hw5.size; simp <;> omega) _ | refine Below.drew ?_))⟩
  ·have hb1 : decide ((s.size : Int) > 1000) = true:=decide_eq_true (by omega)
   have hb2 : decide ((1000 : Int) < (s.size : Int)) = true:=decide_eq_true (by omega)
   have hb3 : decide (1000 < s.size) = true:=decide_eq_true (by omega)
   have hb4 : (1000 < s.size) = True:=eq_true (by omega)
   replace hs:=Aside0.mk hs
   go_wp2
   go_ret
   exact ⟨rfl,(by repeat (first | with_reducible exact hw2 | refine Below.setCell ?_ (by have:=hw2.size; simp <;> omega) _ | refine Below.alloc ?_ (by have:=hw2.size; simp <;> omega) _ | refine Below.drew ?_))⟩
end Go.Proofs.YthhohbidjhcjeaaGreatDoor.H
namespace Go.Proofs.YthhohbidjhcjeaaGreatDoor.RPrimMoves
open Go.ChangeShapes Go.WideShapes Go.ChangeAt Go.RowKit Go.Proofs.YthhohbidjhcjeaaGreatDoorW.PrintWords Go.Proofs.YthhohbidjhcjeaaGreatDoorW.PrintMore Go.Proofs.YthhohbidjhcjeaaGreatDoor.Q Go.Proofs.YthhohbidjhcjeaaGreatDoor.Op Go.Proofs.YthhohbidjhcjeaaGreatDoor.Pl Go.Proofs.YthhohbidjhcjeaaGreatDoor.Od
set_option maxRecDepth 100000 in
theorem lifted (os : Os) (started : os.Started) (H : Type) (enc : TypeId × Value → H) :
  ReturnsInHanded {} Tryz.checked os 9 .any (fun w args => (Rows.primMovesSpec.pre enc Tryz.prog Tryz.f9 [] false w args ∧ laidMetH Tryz.prog laidTabs w) ∧ sizedMet enc Tryz.prog Tryz.f9 (OpenSpec.ofChange Rows.primMovesSpec) false w args)
   (Rows.primMovesSpec.post enc Tryz.prog Tryz.f9 false true false false):=by
 refine returnsInHanded_of_change_and (C:=Tryz.checked) (X:=fun w _ => laidMetH Tryz.prog laidTabs w) (fun _ _ _ hh h => h.of_heap hh) own started (by kernel_rfl) Tryz.func9
  (ChangeSpec.witness_shaped (enc:=enc) (C:=Tryz.checked) (os:=os) (X:=fun w _ => laidMetH Tryz.prog laidTabs w) false (World.laidAll Tryz.prog os laidTabs) #[.slice none 0 0,.int .u8 0,.string ByteArray.empty] 8 (World.laidAll_os _ _ _)
   (World.shaped_of_ZipB (by kernel_rfl) (by kernel_rfl)) (by kernel_rfl) (by kernel_rfl) (by kernel_rfl)
   (by rw [MakeChecks.laidMetH_plain _ _ _ (by kernel_rfl)]; exact laidMet_laidAll _ (by kernel_rfl) (by kernel_rfl))) ?_
 intro W base args ds gs before hval0 hW _ hsz0 hL _
 have hsz : (DataW.weightsEach Tryz.prog (Tryz.f9.params.toList ++ Rows.primMovesSpec.plain.varTypes Tryz.prog) (ds ++ gs)).all (· ≤ reachBytes) = true:=hsz0
 have hval : ∀ (j : Nat) t v,Tryz.f9.params[j]? = some t → args[j]? = some v → Value.okWide Tryz.prog W .any base t v:=hval0
 have hW':=hW
 obtain ⟨p,q,hA0,hV,rfl,hfz,hnd⟩:=hW
 have hA : DataW.TrodAll enc Tryz.prog W 0 (fun _ => true) true Tryz.f9.params.toList args.toList ds p:=hA0
 rw [Tryz.params9] at hA hval hsz
 obtain ⟨v0,vs0,d0,ds0,p0,q0,hargs,rfl,rfl,h0,r0⟩:=trodAll_cons hA
 obtain ⟨v1,vs1,d1,ds1,p1,q1,rfl,rfl,rfl,h1,r1⟩:=trodAll_cons r0
 obtain ⟨v2,vs2,d2,ds2,p2,q2,rfl,rfl,rfl,h2,r2⟩:=trodAll_cons r1
 obtain ⟨rfl,rfl,rfl⟩:=trodAll_nil r2
 obtain rfl : args = #[v0,v1,v2]:=by cases args; simp_all
 obtain ⟨rfl,rfl⟩:=trodVars_none hV
 have k0:=h0
 have lt0 : ∀ x ∈ p0,x.block < W.heap.size:=by obtain ⟨m,hm⟩:=k0; exact DataW.trod_lt m _ _ _ hm
 obtain ⟨x0,hK0,hG0⟩:=opened o22 h0 hsz (j:=0) rfl rfl
 obtain ⟨B0,u0,hc0,lu0,g0⟩:=hK0
 obtain ⟨b0,n0,m0,rfl⟩:=okWide_slice Tryz.underlying22 (hval 0 22 v0 rfl rfl)
 obtain ⟨rfl,rfl,rfl⟩ : b0 = B0 ∧ n0 = x0.length ∧ m0 = u0:=by simpa [Value.cells] using hc0
 obtain ⟨_,hb0,hg0⟩:=hG0
 have k1:=h1
 have lt1 : ∀ x ∈ p1,x.block < W.heap.size:=by obtain ⟨m,hm⟩:=k1; exact DataW.trod_lt m _ _ _ hm
 obtain ⟨x1,hK1,hG1⟩:=opened o5 h1 hsz (j:=1) rfl rfl
 obtain ⟨n1,rfl⟩:=okWide_int Tryz.underlying5 (hval 1 5 v1 rfl rfl)
 obtain rfl : x1 = n1:=by have h_ : [Value.int .u8 n1] = [Value.int .u8 x1]:=hK1; simpa using h_.symm
 have hx1 : 0 ≤ x1 ∧ x1 ≤ 255:=by simpa [Lit.wf,IntKind.min,IntKind.max,IntKind.signed,IntKind.bits] using hG1
 have k2:=h2
 have lt2 : ∀ x ∈ p2,x.block < W.heap.size:=by obtain ⟨m,hm⟩:=k2; exact DataW.trod_lt m _ _ _ hm
 obtain ⟨x2,hK2,hG2⟩:=opened o9 h2 hsz (j:=2) rfl rfl
 obtain ⟨n2,rfl⟩:=okWide_string Tryz.underlying9 (hval 2 9 v2 rfl rfl)
 obtain rfl : x2 = n2:=by have h_ : [Value.string n2] = [Value.string x2]:=hK2; simpa using h_.symm
 clear hA0 hval0 hsz0 hsz
 refine (Go.Proofs.YthhohbidjhcjeaaGreatDoor.H.moves_calls x0 b0 m0 x1 x2 W g0 lu0 (by omega) (fun x hx => (hg0 x hx).n) hx1.1 hx1.2).mono fun e W' ⟨he,bel⟩ => ?_
 subst he
 exact ⟨_,rfl,_,_,_,[],_,[],hW',trodAll_mk1 (shut_bool Tryz.underlying4 _),(trodAll_cons_mk (Below.trod laidOut (by kernel_rfl) (of_decide_eq_true (by kernel_rfl)) k0 bel lt0) (trodAll_cons_mk (Below.trod laidOut (by kernel_rfl) (of_decide_eq_true (by kernel_rfl)) k1 bel lt1) (trodAll_cons_mk (Below.trod laidOut (by kernel_rfl) (of_decide_eq_true (by kernel_rfl)) k2 bel lt2) trodAll_mk0))),rfl,bel.frame _,fun h => by cases h⟩
theorem band {a b : Bool} (ha : a = true) (hb : b = true) : (a && b) = true:=by rw [ha,hb]; rfl
set_option maxHeartbeats 4000000 in
theorem facts : joinedFacts Tryz.prog 9 Tryz.f9 Rows.primMovesSpec Rows.primMovesRow = true:=by
 unfold joinedFacts
 repeat' (with_reducible refine band ?_ ?_)
 all_goals (first | (with_reducible exact heads.1) | (rw [heads.2.1]; rfl) | (rw [heads.2.2.1]; rfl) | (as_aux_lemma => kernel_rfl))
set_option maxHeartbeats 4000000 in
theorem over : Rows.primMovesRow.holds Tryz.pinned (OpenSpec.ofChange Rows.primMovesSpec) :=
 OpenClaim.holds_of_wide 9 Tryz.f9 rfl rfl rfl rfl rfl rfl rfl ⟨rfl,rfl,rfl,rfl,rfl⟩ rfl rfl rfl rfl rfl (by as_aux_lemma => kernel_rfl) Tryz.func9 facts
  (of_decide_eq_true (by as_aux_lemma => kernel_rfl)) (by unfold Func.isWrapper; first | (rw [if_pos (by decide +kernel)]; kernel_rfl) | (rw [if_neg (by decide +kernel)]; exact ⟨rfl,rfl⟩))
  (fun os started H enc _ => lifted os started H enc)
set_option maxHeartbeats 4000000 in
theorem card : Rows.PrimMovesCardSaid :=
 Claim7.holds_tied_plain_at .later [] [.data, .pinned] true (true, "b2c3b2d2b50221d5631762a848752805bff427337fd1c8fab364110e20b5edb9") false over (fun _ h => by cases h) (by as_aux_lemma => kernel_rfl) (fun _ h => by cases h) primMoves_row_tie rfl ⟨rfl, rfl⟩ heads.2.2.2 rfl
  (fun f fn hf hfn => by
   obtain rfl : f = 9:=Option.some.inj ((show Tryz.prog.funcNamed Rows.primMovesRow.func = some 9 by as_aux_lemma => kernel_rfl).symm.trans hf) |>.symm
   obtain rfl : fn = Tryz.f9:=(Option.some.inj (Tryz.func9.symm.trans hfn)).symm
   exact ⟨by as_aux_lemma => kernel_rfl,fun j t ht => by
    rw [Tryz.params9] at ht
    have hm : t ∈ [22,5,9]:=by simpa using Array.mem_of_getElem? ht
    have hall : ([22,5,9].all fun u => !Tryz.prog.wantsStandIn u) = true:=by as_aux_lemma => kernel_rfl
    exact (show Tryz.prog.wantsStandIn t = false by simpa using List.all_eq_true.1 hall t hm)⟩)
  (by as_aux_lemma => kernel_rfl)
end Go.Proofs.YthhohbidjhcjeaaGreatDoor.RPrimMoves
namespace Go.Proofs.YthhohbidjhcjeaaGreatDoor
/-- The card of PrimMoves. -/
theorem PrimMoves_card : Rows.PrimMovesCardSaid:=RPrimMoves.card
#print axioms PrimMoves_card
end Go.Proofs.YthhohbidjhcjeaaGreatDoor
