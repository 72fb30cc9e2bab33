/- The statement PrimCounts holds: whatever the input the law returns true, and the input reads behind the call as before; the listed tables are tied to the program's text. -/
import Derived.Test.YthhohbidjhcjeaaGreatDoorBM6
import Derived.Test.YthhohbidjhcjeaaGreatDoorBM8
import Derived.Test.YthhohbidjhcjeaaGreatDoorBT1
import Derived.Test.YthhohbidjhcjeaaGreatDoorBM7
import Derived.Test.YthhohbidjhcjeaaGreatDoorRows
import Derived.Test.YthhohbidjhcjeaaGreatDoorCards
import Derived.Test.YthhohbidjhcjeaaGreatDoorTie
import Derived.WalkKit
import Derived.ProofKit
import Derived.OpenShut
import Derived.ShutString
import Derived.ChangeOld
import Derived.Below
import Derived.SizedLaws
import Derived.Lay
import Derived.LaidOnce
import Derived.LaidMore
import Derived.SevenTiedAt
namespace Go.Proofs.YthhohbidjhcjeaaGreatDoor.H
open Go.RowKit Go.Proofs.YthhohbidjhcjeaaGreatDoor.Q Go.Proofs.YthhohbidjhcjeaaGreatDoor.Pl
set_option linter.unusedVariables false
set_option linter.unusedSimpArgs false
/-- The paths that a patch is of. -/
def Rg (p : S25) (s : ByteArray) : Prop:=withinB s p.f1 = true ∨ (p.f0 = 10 ∧ withinB s p.f2 = true)
def isAdd (p : S25) : Prop:=p.f0 = 1 ∨ p.f0 = 3 ∨ p.f0 = 5
/-- Where a patch lays something new. -/
def tgt (p : S25) : ByteArray:=if p.f0 = 10 then p.f2 else p.f1
theorem self_mv (s t : ByteArray) : mv s s t = t:=by
 have:=mv_data (s:=s) (fr:=s) t (r:=[]) (by simp)
 exact data_inj (by rw [this]; simp)
/-- What is not a patch's own is as it was. -/
theorem do_else {l : List S41} {p : S25} (h : applyE l p = 0) {s : ByteArray} (hs : ¬ Rg p s) : findV (doL l p) s = findV l s:=by
 obtain ⟨ht,hp,hd⟩:=apply_zero.mp h
 have h1 : withinB s p.f1 = false:=by
  cases k : withinB s p.f1 with
  | false => rfl
  | true => exact absurd (.inl k) hs
 have hne : s ≠ p.f1:=fun e => by rw [e,within_refl] at h1; cases h1
 rcases kinds4 hp with hk | hk | ⟨h7,h9⟩ | h10
 ·obtain ⟨e1,e2⟩:=doE_add (l:=l) hk
  rw [e1] at hd
  rw [e2,ins_find ht.s (x:=newE p) (add_zero.mp hd).1]
  exact if_neg hne
 ·obtain ⟨e1,e2⟩:=doE_remove (l:=l) hk
  rw [e1] at hd
  rw [e2,del_find ht.s ((remove_zero ht.s).mp hd).1,if_neg hne]
 ·obtain ⟨e1,e2⟩:=doE_change (l:=l) h7 h9
  rw [e1] at hd
  obtain ⟨x,y,hx,hk,hc⟩:=change_zero.mp hd
  rw [e2,change_L hx hc,set_find ht.s hx ((change_f0 hc).1.trans (find_mem hx).2),if_neg hne]
 ·obtain ⟨e1,e2⟩:=doE_move (l:=l) h10
  rw [e1] at hd
  obtain ⟨⟨x0,hx0⟩,hn,hu,hr⟩:=move_zero.mp hd
  have h2 : withinB s p.f2 = false:=by
   cases k : withinB s p.f2 with
   | false => rfl
   | true => exact absurd (.inr ⟨h10,k⟩) hs
  rw [e2]
  unfold moveL
  rw [move_find ht.s (ht.none_within hn),h1,h2,if_neg (by simp),if_neg (by simp)]
/-- Behind a patch there is nothing at the path from which it moved, or took away; etc: what it writes hangs on its own paths alone. -/
theorem do_own {l k : List S41} {p : S25} (h : applyE l p = 0) (hk : Tr k) (hs : ∀ s,Rg p s → findV l s = findV k s) (hu : Up l (tgt p) → Up k (tgt p)) (hn : isAdd p → k.length ≠ 1024) :
  applyE k p = 0 ∧ ∀ s,Rg p s → findV (doL l p) s = findV (doL k p) s:=by
 obtain ⟨ht,hp,hd⟩:=apply_zero.mp h
 have hown : Rg p p.f1:=.inl (within_refl _)
 rw [apply_zero]
 refine (fun (z : doE k p = 0 ∧ ∀ s,Rg p s → findV (doL l p) s = findV (doL k p) s) => ⟨⟨hk,hp,z.1⟩,z.2⟩) ?_
 rcases kinds4 hp with hkd | hkd | ⟨h7,h9⟩ | h10
 ·obtain ⟨e1,e2⟩:=doE_add (l:=l) hkd
  obtain ⟨e3,e4⟩:=doE_add (l:=k) hkd
  rw [e1] at hd
  rw [e2,e3,e4]
  obtain ⟨g1,g2,g3⟩:=add_zero.mp hd
  have et : tgt p = p.f1:=if_neg (by omega)
  rw [et] at hu
  have g1' : findV k p.f1 = none:=by rw [← hs _ hown,g1]
  refine ⟨add_zero.mpr ⟨g1',hu g2,hn hkd⟩,fun s h => ?_⟩
  rw [ins_find ht.s (x:=newE p) g1,ins_find hk.s (x:=newE p) g1',hs s h]
 ·obtain ⟨e1,e2⟩:=doE_remove (l:=l) hkd
  obtain ⟨e3,e4⟩:=doE_remove (l:=k) hkd
  rw [e1] at hd
  rw [e2,e3,e4]
  obtain ⟨g1,g2⟩:=(remove_zero ht.s).mp hd
  have g1' : findV k p.f1 = some (newE p):=by rw [← hs _ hown,g1]
  refine ⟨(remove_zero hk.s).mpr ⟨g1',fun x hx hw => ?_⟩,fun s h => ?_⟩
  ·have hx':=find_of_mem hk.s hx
   rw [← hs _ (.inl hw)] at hx'
   exact g2 x (find_mem hx').1 hw
  ·rw [del_find ht.s g1,del_find hk.s g1',hs s h]
 ·obtain ⟨e1,e2⟩:=doE_change (l:=l) h7 h9
  obtain ⟨e3,e4⟩:=doE_change (l:=k) h7 h9
  rw [e1] at hd
  rw [e2,e3,e4]
  obtain ⟨x,y,hx,hkk,hc⟩:=change_zero.mp hd
  have hx' : findV k p.f1 = some x:=by rw [← hs _ hown,hx]
  have e:=(change_f0 hc).1.trans (find_mem hx).2
  refine ⟨change_zero.mpr ⟨x,y,hx',hkk,hc⟩,fun s h => ?_⟩
  rw [change_L hx hc,change_L hx' hc,set_find ht.s hx e,set_find hk.s hx' e,hs s h]
 ·obtain ⟨e1,e2⟩:=doE_move (l:=l) h10
  obtain ⟨e3,e4⟩:=doE_move (l:=k) h10
  rw [e1] at hd
  rw [e2,e3,e4]
  obtain ⟨⟨x0,hx0⟩,g1,g2,g3⟩:=move_zero.mp hd
  have et : tgt p = p.f2:=if_pos h10
  rw [et] at hu
  have g1' : findV k p.f2 = none:=by rw [← hs _ (.inr ⟨h10,within_refl _⟩),g1]
  have w1:=ht.none_within g1
  have w2:=hk.none_within g1'
  refine ⟨move_zero.mpr ⟨⟨x0,by rw [← hs _ hown,hx0]⟩,g1',hu g2,fun x hx => ?_⟩,fun s h => ?_⟩
  ·cases hw : withinB x.f0 p.f1 with
   | false => rw [mvP_out _ hw]; exact ((thing_iff x).mp (hk.t x hx)).1
   | true =>
    have hx':=find_of_mem hk.s hx
    rw [← hs _ (.inl hw)] at hx'
    exact g3 x (find_mem hx').1
  ·unfold moveL
   rw [move_find ht.s w1,move_find hk.s w2]
   cases k2 : withinB s p.f2 with
   | true =>
    rw [if_pos rfl,if_pos rfl,hs _ (.inl (mv_within p.f1 k2))]
   | false =>
    cases k1 : withinB s p.f1 with
    | true => simp only [Bool.false_eq_true,if_false,if_true]
    | false =>
     simp only [Bool.false_eq_true,if_false]
     exact hs s h
/-! ### lengths -/
def dLen (p : S25) : Int:=if p.f0 = 1 ∨ p.f0 = 3 ∨ p.f0 = 5 then 1 else if p.f0 = 2 ∨ p.f0 = 4 ∨ p.f0 = 6 then -1 else 0
theorem do_len {l : List S41} {p : S25} (h : applyE l p = 0) : ((doL l p).length : Int) = l.length + dLen p:=by
 obtain ⟨ht,hp,hd⟩:=apply_zero.mp h
 unfold dLen
 rcases kinds4 hp with hk | hk | ⟨h7,h9⟩ | h10
 ·obtain ⟨e1,e2⟩:=doE_add (l:=l) hk
  rw [e2,if_pos hk,ins_len]; omega
 ·obtain ⟨e1,e2⟩:=doE_remove (l:=l) hk
  rw [e1] at hd
  have:=del_len ht.s ((remove_zero ht.s).mp hd).1
  rw [e2,if_neg (by omega),if_pos hk]; omega
 ·obtain ⟨e1,e2⟩:=doE_change (l:=l) h7 h9
  rw [e2,if_neg (by omega),if_neg (by omega)]
  unfold changeL
  rw [set_len]; omega
 ·obtain ⟨e1,e2⟩:=doE_move (l:=l) h10
  rw [e2,if_neg (by omega),if_neg (by omega)]
  unfold moveL
  rw [sort_len,List.length_map]; omega
/-! ### apart ones -/
def Far (p q : S25) : Prop:=∀ s,¬ (Rg p s ∧ Rg q s)
/-- No directory of a new thing of one lies within the other's paths. -/
theorem far_up {l : List S41} {p q : S25} (h : applyE l p = 0) (hf : Far p q) (hq : Rg q (tgt q)) : Up (doL l p) (tgt q) ↔ Up l (tgt q):=by
 have key : ∀ u,parentV (tgt q) = some u → findV (doL l p) u = findV l u:=fun u hu => do_else h fun hr => by
  refine hf (tgt q) ⟨?_,hq⟩
  rcases hr with hr | ⟨h10,hr⟩
  ·exact .inl (within_trans (parent_within hu) hr)
  ·exact .inr ⟨h10,within_trans (parent_within hu) hr⟩
 unfold Up
 constructor
 ·intro k u hu
  obtain ⟨y,hy⟩:=k u hu
  rw [key u hu] at hy
  exact ⟨y,hy⟩
 ·intro k u hu
  obtain ⟨y,hy⟩:=k u hu
  rw [← key u hu] at hy
  exact ⟨y,hy⟩
theorem rg_tgt (p : S25) : Rg p (tgt p):=by
 unfold tgt
 split
 ·rename_i h; exact .inr ⟨h,within_refl _⟩
 ·exact .inl (within_refl _)
/-- Two patches that lie apart, done one behind the other, can be done the other way about (unless the tree is full), and make the same. -/
theorem swap_far {l : List S41} {p q : S25} (hf : Far p q) (h1 : applyE l p = 0) (h2 : applyE (doL l p) q = 0) (hn : isAdd q → l.length ≠ 1024) :
  applyE l q = 0 ∧ applyE (doL l q) p = 0 ∧ doL (doL l q) p = doL (doL l p) q:=by
 have hf' : Far q p:=fun s h => hf s h.symm
 have ht:=(apply_zero.mp h1).1
 have ht2:=apply_tree h2
 obtain ⟨a1,a2⟩:=do_own h2 ht (fun s hs => do_else h1 fun hr => hf s ⟨hr,hs⟩) (far_up h1 hf (rg_tgt q)).mp hn
 have ht3:=apply_tree a1
 have hlen : isAdd p → (doL l q).length ≠ 1024:=fun hp => by
  have e1:=do_len h1
  have e2:=do_len h2
  have e3:=do_len a1
  have e4 : dLen p = 1:=if_pos hp
  have:=ht2.n
  omega
 obtain ⟨b1,b2⟩:=do_own h1 ht3 (fun s hs => (do_else a1 fun hr => hf s ⟨hs,hr⟩).symm) (far_up a1 hf' (rg_tgt p)).mpr hlen
 refine ⟨a1,b1,srt_ext (apply_tree b1).s ht2.s fun s => ?_⟩
 by_cases hp : Rg p s
 ·have hq : ¬ Rg q s:=fun k => hf s ⟨hp,k⟩
  rw [← b2 s hp,do_else h2 hq]
 ·rw [do_else b1 hp]
  by_cases hq : Rg q s
  ·rw [← a2 s hq]
  ·rw [do_else a1 hq,do_else h2 hq,do_else h1 hp]
end Go.Proofs.YthhohbidjhcjeaaGreatDoor.H
namespace Go.Proofs.YthhohbidjhcjeaaGreatDoor.H
open Go.RowKit Go.Proofs.YthhohbidjhcjeaaGreatDoor.Q Go.Proofs.YthhohbidjhcjeaaGreatDoor.Pl
set_option linter.unusedVariables false
set_option linter.unusedSimpArgs false
theorem apart_iff (a b : ByteArray) : apartB a b = true ↔ withinB a b = false ∧ withinB b a = false:=by
 unfold apartB
 cases withinB a b <;> cases withinB b a <;> simp
theorem right_ne {s : ByteArray} (h : rightB s = true) : s ≠ e0:=by
 rintro rfl
 have : rightB e0 = false:=by decide +kernel
 rw [this] at h; cases h
/-- PrimTree: things apart from a patch's paths are as they were. -/
theorem tree_else {l : List S41} {p : S25} (h : applyE l p = 0) {x : S41} (hx : x ∈ l) (h1 : apartB x.f0 p.f1 = true) (h2 : p.f2 ≠ e0 → p.f0 = 10 → apartB x.f0 p.f2 = true) : findV (doL l p) x.f0 = some x:=by
 obtain ⟨ht,hp,hd⟩:=apply_zero.mp h
 rw [do_else h,find_of_mem ht.s hx]
 rintro (k | ⟨h10,k⟩)
 ·rw [((apart_iff _ _).mp h1).1] at k; cases k
 ·have:=h2 (right_ne (prim_move hp h10).1) h10
  rw [((apart_iff _ _).mp this).1] at k; cases k
/-- PrimCounts: each thing that is there behind a move was there ahead. -/
theorem move_was {l : List S41} {p : S25} (h : applyE l p = 0) (h10 : p.f0 = 10) {y : S41} (hy : y ∈ doL l p) : findV l (mvP y.f0 p.f2 p.f1) = some { y with f0:=mvP y.f0 p.f2 p.f1 }:=by
 have hT:=apply_tree h
 obtain ⟨ht,hp,hd⟩:=apply_zero.mp h
 have e:=(doE_move (l:=l) h10).2
 rw [(doE_move h10).1] at hd
 obtain ⟨⟨x0,hx0⟩,hn,hu,hr⟩:=move_zero.mp hd
 have hnw:=ht.none_within hn
 rw [e] at hy
 unfold moveL at hy
 rw [sort_mem] at hy
 obtain ⟨z,hz,rfl⟩:=List.mem_map.mp hy
 have e2 : mvP (mvX p.f1 p.f2 z).f0 p.f2 p.f1 = z.f0:=mvP_back (hnw z hz)
 rw [e2,find_of_mem ht.s hz]
 rfl
theorem rd_nil_find (s : ByteArray) : findV [] s = none:=rfl
/-- A patch that adds nothing but a thing of a kind at a path. -/
def addP (k : Int) (path : ByteArray) : S25:=⟨k,path,e0,e0,0,[],[]⟩
theorem prim_addP {k : Int} (h1 : 1 ≤ k) (h6 : k ≤ 6) (path : ByteArray) : primB (addP k path) = rightB path:=by
 have e : e0.toList = ([] : List UInt8):=by rw [toList_data]; rfl
 unfold primB kindB listedB addP
 dsimp only
 rw [if_neg (by omega),if_neg (by omega),if_pos e,if_neg (by omega),if_neg (by omega),e]
 have a : decide (k ≥ 1) = true:=decide_eq_true h1
 have b : decide (k ≤ 6) = true:=decide_eq_true h6
 rw [a,b]
 simp
/-- Can a thing be added at a path? -/
def mayB (l : List S41) (path : ByteArray) : Bool:=rightB path && (findV l path).isNone && (match parentV path with | none => true | some u => match findV l u with | none => false | some d => decide (d.f1 = 1))
theorem may_iff (l : List S41) (path : ByteArray) : mayB l path = true ↔ rightB path = true ∧ findV l path = none ∧ Up l path:=by
 unfold mayB Up
 simp only [Bool.and_eq_true,Option.isNone_iff_eq_none]
 cases hp : parentV path with
 | none => simp
 | some u =>
  cases hf : findV l u with
  | none => simp [hf]
  | some d => simp [hf,and_assoc]
theorem adds_zero {l : List S41} (ht : Tr l) (hl : l.length < 1024) {k : Int} (hk : k = 1 ∨ k = 3 ∨ k = 5) (path : ByteArray) : applyE l (addP k path) = 0 ↔ mayB l path = true:=by
 rw [apply_zero,may_iff,prim_addP (by omega) (by omega),(doE_add (l:=l) (p:=addP k path) hk).1,add_zero]
 constructor
 ·rintro ⟨_,b,c,d,_⟩; exact ⟨b,c,d⟩
 ·rintro ⟨b,c,d⟩; exact ⟨ht,b,c,d,by omega⟩
theorem adds_laws {l : List S41} {k : Int} (hk : k = 1 ∨ k = 3 ∨ k = 5) {path : ByteArray} (h : applyE l (addP k path) = 0) :
  findV (doL l (addP k path)) path = some (newE (addP k path)) ∧ applyE (doL l (addP k path)) (addP k path) = 71 ∧ applyE (doL l (addP k path)) (addP (k + 1) path) = 0 ∧ doL (doL l (addP k path)) (addP (k + 1) path) = l:=by
 obtain ⟨u1,u2⟩:=undo h
 have hT:=apply_tree h
 obtain ⟨ht,hp,hd⟩:=apply_zero.mp h
 have ei : invS (addP k path) = addP (k + 1) path:=by
  rcases hk with rfl | rfl | rfl <;> rfl
 rw [ei] at u1 u2
 have hf : findV (doL l (addP k path)) path = some (newE (addP k path)):=by
  rw [(doE_add (l:=l) (p:=addP k path) hk).1] at hd
  rw [(doE_add (l:=l) (p:=addP k path) hk).2,ins_find ht.s (x:=newE (addP k path)) (add_zero.mp hd).1]
  exact if_pos rfl
 refine ⟨hf,?_,u1,u2⟩
 unfold applyE
 rw [if_pos (by rw [tree_iff.mpr hT,hp]; rfl),(doE_add (p:=addP k path) hk).1]
 have : roomV (doL l (addP k path)) path = 71:=by unfold roomV; rw [hf]; rfl
 unfold addE
 show (if roomV (doL l (addP k path)) path = 0 then _ else roomV (doL l (addP k path)) path) = 71
 rw [this]; rfl
/-- The place of a thing in a tree. -/
theorem low_at {l : List S41} (hs : Srt l) {i : Nat} (hi : i < l.length) : lowB l (l.getD i z41).f0 = i ∧ findV l (l.getD i z41).f0 = some (l.getD i z41):=by
 have hm : l.getD i z41 ∈ l:=by rw [getD_get hi]; exact List.getElem_mem hi
 have hf:=find_of_mem hs hm
 obtain ⟨h1,h2⟩:=(has_find hs _).2 _ hf
 refine ⟨?_,hf⟩
 rcases Nat.lt_trichotomy (lowB l (l.getD i z41).f0) i with h | h | h
 ·have:=srt_get hs h hi
  rw [h1,ltP_irrefl] at this; cases this
 ·exact h
 ·have:=srt_get hs h h2
  rw [h1,ltP_irrefl] at this; cases this
/-- A change of lines. -/
def linesP (path : ByteArray) (a : Int) (o n : List ByteArray) : S25:=⟨7,path,e0,e0,a,o,n⟩
theorem lines_laws {l : List S41} (ht : Tr l) {i : Nat} (hi : i < l.length) {a : Int} {o n : List ByteArray} (hp : primB (linesP (l.getD i z41).f0 a o n) = true) :
  ((l.getD i z41).f1 ≠ 2 → applyE l (linesP (l.getD i z41).f0 a o n) = 73) ∧
  ((l.getD i z41).f1 = 2 → hunkV (l.getD i z41).f2 a o n = none → applyE l (linesP (l.getD i z41).f0 a o n) = 81) ∧
  ((l.getD i z41).f1 = 2 → ∀ y,hunkV (l.getD i z41).f2 a o n = some y → applyE l (linesP (l.getD i z41).f0 a o n) = 0 ∧ doL l (linesP (l.getD i z41).f0 a o n) = l.set i { (l.getD i z41) with f2:=y }):=by
 obtain ⟨hlo,hf⟩:=low_at ht.s hi
 obtain ⟨x,hx⟩ : ∃ x,l.getD i z41 = x:=⟨_,rfl⟩
 rw [hx] at hlo hf hp ⊢
 have hap : applyE l (linesP x.f0 a o n) = changeE l (linesP x.f0 a o n):=by
  unfold applyE
  rw [if_pos (by rw [tree_iff.mpr ht,hp]; rfl)]
  exact (doE_change (l:=l) (p:=linesP x.f0 a o n) (by show (7 : Int) ≤ 7; decide) (by show (7 : Int) ≤ 9; decide)).1
 have hth : thereV l x.f0 7 = if x.f1 = 2 then 0 else 73:=by unfold thereV; rw [hf]; rfl
 have hta : thingAt l x.f0 = x:=by unfold thingAt; rw [hf]; rfl
 have hce : changeE l (linesP x.f0 a o n) = if thereV l x.f0 7 = 0 then (if (changeV x (linesP x.f0 a o n)).isSome then 0 else 81) else thereV l x.f0 7:=by
  unfold changeE
  show (if thereV l x.f0 7 = 0 then (if (changeV (thingAt l x.f0) (linesP x.f0 a o n)).isSome then 0 else 81) else thereV l x.f0 7) = _
  rw [hta]
 have hcv : changeV x (linesP x.f0 a o n) = (hunkV x.f2 a o n).map (fun l => { x with f2:=l }):=rfl
 rw [hap,hce,hth,hcv]
 refine ⟨fun h => ?_,fun h1 h2 => ?_,fun h1 y h2 => ⟨?_,?_⟩⟩
 ·rw [if_neg h]; rfl
 ·rw [if_pos h1,h2]; rfl
 ·rw [if_pos h1,h2]; rfl
 ·rw [(doE_change (l:=l) (p:=linesP x.f0 a o n) (by show (7 : Int) ≤ 7; decide) (by show (7 : Int) ≤ 9; decide)).2,change_L (p:=linesP x.f0 a o n) hf (by rw [hcv,h2]; rfl)]
  unfold setL
  show l.set (lowB l x.f0) _ = _
  rw [hlo]
/-- A move. -/
def moveP (fr to_ : ByteArray) : S25:=⟨10,fr,to_,e0,0,[],[]⟩
theorem moves_laws {l : List S41} {fr to_ : ByteArray} (h : applyE l (moveP fr to_) = 0) :
  findV l to_ = none ∧ findV (doL l (moveP fr to_)) fr = none ∧ (findV (doL l (moveP fr to_)) to_).isSome = true ∧ applyE (doL l (moveP fr to_)) (moveP to_ fr) = 0 ∧ doL (doL l (moveP fr to_)) (moveP to_ fr) = l:=by
 obtain ⟨u1,u2⟩:=undo h
 obtain ⟨ht,hp,hd⟩:=apply_zero.mp h
 have ei : invS (moveP fr to_) = moveP to_ fr:=rfl
 rw [ei] at u1 u2
 rw [(doE_move (p:=moveP fr to_) rfl).1] at hd
 obtain ⟨⟨x0,hx0⟩,hn,hu,hr⟩:=move_zero.mp hd
 obtain ⟨b1,b2,b3⟩:=apply_zero.mp u1
 rw [(doE_move (p:=moveP to_ fr) rfl).1] at b3
 obtain ⟨⟨x1,hx1⟩,hn1,_,_⟩:=move_zero.mp b3
 have hx2 : findV (doL l (moveP fr to_)) to_ = some x1:=hx1
 exact ⟨hn,hn1,by rw [hx2]; rfl,u1,u2⟩
end Go.Proofs.YthhohbidjhcjeaaGreatDoor.H
namespace Go.Proofs.YthhohbidjhcjeaaGreatDoor.H
open Go.RowKit Go.Shelf Go.Proofs.YthhohbidjhcjeaaGreatDoorW.PrintWords Go.Proofs.YthhohbidjhcjeaaGreatDoorW.PrintLast Go.Proofs.YthhohbidjhcjeaaGreatDoorW.PrintMore
open Go.Proofs.YthhohbidjhcjeaaGreatDoor.Q Go.Proofs.YthhohbidjhcjeaaGreatDoor.Pl
set_option linter.unusedVariables false
set_option linter.unusedSimpArgs false
theorem movedR_at (p fr dst : ByteArray) (w : World) (hs : dst.size + p.size ≤ 140737488355328) : Calls Tryz.prog 34 #[.string p,.string fr,.string dst] w fun e w' => e = .returned (.tuple #[.string (if withinB p fr then mv p fr dst else e0),.bool (withinB p fr)]) ∧ Below w.heap.size w w':=by
 have hW:=counterpaneref04_Within.calls p fr (withinB p fr) w (refWithin_f p fr)
 cases hb : withinB p fr with
 | false =>
  rw [hb] at hW
  rw [if_neg (by simp)]
  unfold e0
  go_enter Tryz.func34,Tryz.ntmps34
  go_wp2_with (go_at_call 74; refine hW.mono ?_; rintro e w' ⟨rfl,m,rfl⟩)
  refine bodyPost_ret ?_ rfl ⟨rfl,pw_below_drewN (Below.refl _ w) m⟩
  simp [results,Tryz.results34]
 | true =>
  have hle:=within_size hb
  rw [hb] at hW
  rw [if_pos rfl]
  unfold mv
  have hlen : (dst.size : Int) + ((p.size - fr.size : Nat) : Int) ≤ 9223372036854775807:=by omega
  have hsl : ∀ W,(Instr.slice 9 (.string p) (some (.int .i64 (fr.size : Int))) none none).run Tryz.prog W = .ok (.string (p.extract fr.size p.size)) W:=fun W => by
   rw [run_slice_string_from_if W 9 p .i64 _ Tryz.underlying9,if_pos ⟨by omega,by omega⟩,Int.toNat_natCast]
  go_enter Tryz.func34,Tryz.ntmps34
  go_wp2_with (go_at_call 74; refine hW.mono ?_; rintro e w' ⟨rfl,m,rfl⟩)
  refine bodyPost_ret ?_ rfl ⟨rfl,pw_below_drewN (Below.refl _ w) m⟩
  simp [results,Tryz.results34]
theorem below_setCell4 {w W : World} {B : Nat} {g : Nat} {v : Value} (h : Below B w W) (hg : B ≤ g) : Below B w (W.setCell ⟨g,0,none⟩ v):=Below.setCell (p:=⟨g,0,none⟩) h hg _
set_option maxHeartbeats 4000000 in
set_option maxRecDepth 1000000 in
theorem counts_calls (l : List S41) (A : Option Addr) (c : Nat) (p : S25) (A5 : Option Addr) (a5 : Nat) (A6 : Option Addr) (a6 : Nat) (w : World) (hr : Kd.C k41 w A l.length l) (hc : l.length ≤ c) (hn : l.length ≤ 140737488355328) (hx : ∀ x ∈ l,x.f2.length ≤ 140737488355328) (hp : Okp p) (rp : Rd w p A5 a5 A6 a6) :
  Calls Tryz.prog 6 #[.slice A l.length c,.agg #[.int .i64 p.f0,.string p.f1,.string p.f2,.string p.f3,.int .i64 p.f4,.slice A5 p.f5.length a5,.slice A6 p.f6.length a6]] w fun e w' => e = .returned (.bool true) ∧ Below w.heap.size w w':=by
 obtain ⟨g,hgs,hG⟩:=G_at l A c w hr hc hn hx
 obtain ⟨k,hks,hK⟩:=K_at p A5 a5 A6 a6 w hp rp
 replace hG:=Aside0.mk hG
 replace hK:=Aside0.mk hK
 replace hgs:=Aside0.mk hgs
 replace hks:=Aside0.mk hks
 replace hn:=Aside0.mk hn
 replace hx:=Aside0.mk hx
 replace hr:=Aside0.mk hr
 replace hc:=Aside0.mk hc
 replace hp:=Aside0.mk hp
 replace rp:=Aside0.mk rp
 go_enter Tryz.func6,Tryz.ntmps6
 go_wp2_with (fail)
 refine (head08_calls _).mono ?_
 rintro e w1 ⟨rfl,hb1⟩
 have hs1 : Below w.heap.size w w1:=two_steps (by repeat (first | exact Below.refl _ _ | refine Below.setCell ?_ (by simp <;> omega) _ | refine Below.alloc ?_ (by simp <;> omega) _ | refine Below.drew ?_)) hb1
 have hw1 : Below w.heap.size w w1:=(Below.refl w.heap.size w).trans (hs1.mono (Below.refl w.heap.size w).size)
 have xp : w1.heap[w.heap.size]? = some (.cells #[.int .i64 p.f0,.string p.f1,.string p.f2,.string p.f3,.int .i64 p.f4,.slice A5 p.f5.length a5,.slice A6 p.f6.length a6] 25 (0,0)):=blk_below (blk_new w _) hb1
 clear hb1
 obtain ⟨pc0,pc1,pc2,pc3,pc4,pc5,pc6⟩:=cells7 xp
 go_wp2_with (fail)
 refine (hG.out _ (by repeat (first | with_reducible exact hw1 | refine Below.setCell ?_ (by have:=hw1.size; simp <;> omega) _ | refine Below.alloc ?_ (by have:=hw1.size; simp <;> omega) _ | refine Below.drew ?_))).mono ?_
 rintro e w2 ⟨rfl,hb2⟩
 clear pc0 pc1 pc2 pc3 pc4 pc5 pc6
 have hs2 : Below w1.heap.size w1 w2:=two_steps (by repeat (first | exact Below.refl _ _ | refine Below.setCell ?_ (by simp <;> omega) _ | refine Below.alloc ?_ (by simp <;> omega) _ | refine Below.drew ?_)) hb2
 have hw2 : Below w.heap.size w w2:=hw1.trans (hs2.mono hw1.size)
 have xp:=blk_below xp hs2
 clear hb2
 obtain ⟨pc0,pc1,pc2,pc3,pc4,pc5,pc6⟩:=cells7 xp
 cases g with
 | true =>
  go_wp2
  go_ret
  exact ⟨rfl,(by repeat (first | with_reducible exact hw2 | refine Below.setCell ?_ (by have:=hw2.size; simp <;> omega) _ | refine Below.alloc ?_ (by have:=hw2.size; simp <;> omega) _ | refine Below.drew ?_))⟩
 | false =>
  go_wp2_with (fail)
  refine (hK.out _ (by repeat (first | with_reducible exact hw2 | refine Below.setCell ?_ (by have:=hw2.size; simp <;> omega) _ | refine Below.alloc ?_ (by have:=hw2.size; simp <;> omega) _ | refine Below.drew ?_))).mono ?_
  rintro e w3 ⟨rfl,hb3⟩
  clear pc0 pc1 pc2 pc3 pc4 pc5 pc6
  have hs3 : Below w2.heap.size w2 w3:=two_steps (by repeat (first | exact Below.refl _ _ | refine Below.setCell ?_ (by simp <;> omega) _ | refine Below.alloc ?_ (by simp <;> omega) _ | refine Below.drew ?_)) hb3
  have hw3 : Below w.heap.size w w3:=hw2.trans (hs3.mono hw2.size)
  have xp:=blk_below xp hs3
  clear hb3
  obtain ⟨pc0,pc1,pc2,pc3,pc4,pc5,pc6⟩:=cells7 xp
  cases k with
  | true =>
   go_wp2
   go_ret
   exact ⟨rfl,(by repeat (first | with_reducible exact hw3 | refine Below.setCell ?_ (by have:=hw3.size; simp <;> omega) _ | refine Below.alloc ?_ (by have:=hw3.size; simp <;> omega) _ | refine Below.drew ?_))⟩
  | false =>
   have hsm:=Aside0.mk (hgs.out (by trivial))
   have hsp:=Aside0.mk (hks.out (by trivial))
   have hA:=A_at l A c p A5 a5 A6 a6 w hr.out rp.out (small_fit hsm.out.2) (small_fitP hsp.out hp.out)
   have hdl:=fun h => do_len (l:=l) (p:=p) h
   have hmw:=fun h h10 y => move_was (l:=l) (p:=p) h h10 (y:=y)
   have hTM:=fun h => apply_tree (l:=l) (p:=p) h
   have hq0 : applyE l p = 0 → 1 ≤ p.f0 ∧ p.f0 ≤ 10:=fun h => primB_lo (apply_zero.mp h).2.1
   have hpz : applyE l p = 0 → p.f0 = 10 → p.f1.size ≤ 136 ∧ p.f2.size ≤ 136:=fun h h10 => by
    have hq:=(apply_zero.mp h).2.1
    exact ⟨right_size (prim_path hq),right_size (prim_move hq h10).1⟩
   obtain ⟨E,hE⟩ : ∃ E,applyE l p = E:=⟨_,rfl⟩
   obtain ⟨M,hM⟩ : ∃ M,doL l p = M:=⟨_,rfl⟩
   rw [hE,hM] at hA
   rw [hE] at hq0 hpz
   simp only [hE,hM] at hdl hmw hTM
   replace hA:=Aside0.mk hA
   replace hdl:=Aside0.mk hdl
   replace hmw:=Aside0.mk hmw
   replace hTM:=Aside0.mk hTM
   replace hq0:=Aside0.mk hq0
   replace hpz:=Aside0.mk hpz
   clear hE hM
   go_wp2_with (fail)
   refine (hA.out _ (by repeat (first | with_reducible exact hw3 | refine Below.setCell ?_ (by have:=hw3.size; simp <;> omega) _ | refine Below.alloc ?_ (by have:=hw3.size; simp <;> omega) _ | refine Below.drew ?_))).mono ?_
   rintro e w4 ⟨S,rfl,hb4,hS,hSn⟩
   clear pc0 pc1 pc2 pc3 pc4 pc5 pc6
   have hs4 : Below w3.heap.size w3 w4:=two_steps (by repeat (first | exact Below.refl _ _ | refine Below.setCell ?_ (by simp <;> omega) _ | refine Below.alloc ?_ (by simp <;> omega) _ | refine Below.drew ?_)) hb4
   have hw4 : Below w.heap.size w w4:=hw3.trans (hs4.mono hw3.size)
   have xp:=blk_below xp hs4
   replace hS:=Aside0.mk hS
   replace hSn:=Aside0.mk hSn
   clear hb4
   obtain ⟨pc0,pc1,pc2,pc3,pc4,pc5,pc6⟩:=cells7 xp
   by_cases hz : E = 0
   ·subst hz
    obtain ⟨A4,c4,rfl,hl4,hC4⟩:=hS.out (by trivial)
    clear hS hSn
    replace hC4:=Aside0.mk hC4
    replace hl4:=Aside0.mk hl4
    have hkk:=hq0.out (by trivial)
    have hd0:=hdl.out (by trivial)
    have hML : M.length ≤ 1024:=(hTM.out (by trivial)).n
    have hl8:=hsm.out.1
    have hk : p.f0 = 1 ∨ p.f0 = 3 ∨ p.f0 = 5 ∨ p.f0 = 2 ∨ p.f0 = 4 ∨ p.f0 = 6 ∨ p.f0 = 7 ∨ p.f0 = 8 ∨ p.f0 = 9 ∨ p.f0 = 10:=by omega
    clear hkk
    unfold dLen at hd0
    rcases hk with hk | hk | hk | hk | hk | hk | hk | hk | hk | hk
    ·rw [hk] at pc0 hd0
     have e : (if (1 : Int) = 1 ∨ (1 : Int) = 3 ∨ (1 : Int) = 5 then (1 : Int) else if (1 : Int) = 2 ∨ (1 : Int) = 4 ∨ (1 : Int) = 6 then -1 else 0) = 1:=by decide
     rw [e] at hd0
     have hd1 : (M.length : Int) = (l.length : Int) + 1:=by omega
     clear e
     have hwr : IntKind.i64.wrap ((l.length : Int) + 1) = (M.length : Int):=by rw [hd1]; exact wrap64_same (by omega) (by omega)
     have heq : ((M.length : Int) == (M.length : Int)) = true:=by simp
     have hl0:=Aside0.mk hd1
     clear hd0 hd1 hML hl8 hk
     go_wp2
     go_ret
     exact ⟨rfl,(by repeat (first | with_reducible exact hw4 | refine Below.setCell ?_ (by have:=hw4.size; simp <;> omega) _ | refine Below.alloc ?_ (by have:=hw4.size; simp <;> omega) _ | refine Below.drew ?_))⟩
    ·rw [hk] at pc0 hd0
     have e : (if (3 : Int) = 1 ∨ (3 : Int) = 3 ∨ (3 : Int) = 5 then (1 : Int) else if (3 : Int) = 2 ∨ (3 : Int) = 4 ∨ (3 : Int) = 6 then -1 else 0) = 1:=by decide
     rw [e] at hd0
     have hd1 : (M.length : Int) = (l.length : Int) + 1:=by omega
     clear e
     have hwr : IntKind.i64.wrap ((l.length : Int) + 1) = (M.length : Int):=by rw [hd1]; exact wrap64_same (by omega) (by omega)
     have heq : ((M.length : Int) == (M.length : Int)) = true:=by simp
     have hl0:=Aside0.mk hd1
     clear hd0 hd1 hML hl8 hk
     go_wp2
     go_ret
     exact ⟨rfl,(by repeat (first | with_reducible exact hw4 | refine Below.setCell ?_ (by have:=hw4.size; simp <;> omega) _ | refine Below.alloc ?_ (by have:=hw4.size; simp <;> omega) _ | refine Below.drew ?_))⟩
    ·rw [hk] at pc0 hd0
     have e : (if (5 : Int) = 1 ∨ (5 : Int) = 3 ∨ (5 : Int) = 5 then (1 : Int) else if (5 : Int) = 2 ∨ (5 : Int) = 4 ∨ (5 : Int) = 6 then -1 else 0) = 1:=by decide
     rw [e] at hd0
     have hd1 : (M.length : Int) = (l.length : Int) + 1:=by omega
     clear e
     have hwr : IntKind.i64.wrap ((l.length : Int) + 1) = (M.length : Int):=by rw [hd1]; exact wrap64_same (by omega) (by omega)
     have heq : ((M.length : Int) == (M.length : Int)) = true:=by simp
     have hl0:=Aside0.mk hd1
     clear hd0 hd1 hML hl8 hk
     go_wp2
     go_ret
     exact ⟨rfl,(by repeat (first | with_reducible exact hw4 | refine Below.setCell ?_ (by have:=hw4.size; simp <;> omega) _ | refine Below.alloc ?_ (by have:=hw4.size; simp <;> omega) _ | refine Below.drew ?_))⟩
    ·rw [hk] at pc0 hd0
     have e : (if (2 : Int) = 1 ∨ (2 : Int) = 3 ∨ (2 : Int) = 5 then (1 : Int) else if (2 : Int) = 2 ∨ (2 : Int) = 4 ∨ (2 : Int) = 6 then -1 else 0) = -1:=by decide
     rw [e] at hd0
     have hd1 : (M.length : Int) = (l.length : Int) - 1:=by omega
     clear e
     have hwr : IntKind.i64.wrap ((l.length : Int) - 1) = (M.length : Int):=by rw [hd1]; exact wrap64_same (by omega) (by omega)
     have heq : ((M.length : Int) == (M.length : Int)) = true:=by simp
     have hl0:=Aside0.mk hd1
     clear hd0 hd1 hML hl8 hk
     go_wp2
     go_ret
     exact ⟨rfl,(by repeat (first | with_reducible exact hw4 | refine Below.setCell ?_ (by have:=hw4.size; simp <;> omega) _ | refine Below.alloc ?_ (by have:=hw4.size; simp <;> omega) _ | refine Below.drew ?_))⟩
    ·rw [hk] at pc0 hd0
     have e : (if (4 : Int) = 1 ∨ (4 : Int) = 3 ∨ (4 : Int) = 5 then (1 : Int) else if (4 : Int) = 2 ∨ (4 : Int) = 4 ∨ (4 : Int) = 6 then -1 else 0) = -1:=by decide
     rw [e] at hd0
     have hd1 : (M.length : Int) = (l.length : Int) - 1:=by omega
     clear e
     have hwr : IntKind.i64.wrap ((l.length : Int) - 1) = (M.length : Int):=by rw [hd1]; exact wrap64_same (by omega) (by omega)
     have heq : ((M.length : Int) == (M.length : Int)) = true:=by simp
     have hl0:=Aside0.mk hd1
     clear hd0 hd1 hML hl8 hk
     go_wp2
     go_ret
     exact ⟨rfl,(by repeat (first | with_reducible exact hw4 | refine Below.setCell ?_ (by have:=hw4.size; simp <;> omega) _ | refine Below.alloc ?_ (by have:=hw4.size; simp <;> omega) _ | refine Below.drew ?_))⟩
    ·rw [hk] at pc0 hd0
     have e : (if (6 : Int) = 1 ∨ (6 : Int) = 3 ∨ (6 : Int) = 5 then (1 : Int) else if (6 : Int) = 2 ∨ (6 : Int) = 4 ∨ (6 : Int) = 6 then -1 else 0) = -1:=by decide
     rw [e] at hd0
     have hd1 : (M.length : Int) = (l.length : Int) - 1:=by omega
     clear e
     have hwr : IntKind.i64.wrap ((l.length : Int) - 1) = (M.length : Int):=by rw [hd1]; exact wrap64_same (by omega) (by omega)
     have heq : ((M.length : Int) == (M.length : Int)) = true:=by simp
     have hl0:=Aside0.mk hd1
     clear hd0 hd1 hML hl8 hk
     go_wp2
     go_ret
     exact ⟨rfl,(by repeat (first | with_reducible exact hw4 | refine Below.setCell ?_ (by have:=hw4.size; simp <;> omega) _ | refine Below.alloc ?_ (by have:=hw4.size; simp <;> omega) _ | refine Below.drew ?_))⟩
    ·rw [hk] at pc0 hd0
     have e : (if (7 : Int) = 1 ∨ (7 : Int) = 3 ∨ (7 : Int) = 5 then (1 : Int) else if (7 : Int) = 2 ∨ (7 : Int) = 4 ∨ (7 : Int) = 6 then -1 else 0) = 0:=by decide
     rw [e] at hd0
     have hd1 : (M.length : Int) = (l.length : Int):=by omega
     clear e
     have heq : ((M.length : Int) == (l.length : Int)) = true:=by rw [hd1]; simp
     have hl0:=Aside0.mk hd1
     clear hd0 hd1 hML hl8 hk
     go_wp2
     go_ret
     exact ⟨rfl,(by repeat (first | with_reducible exact hw4 | refine Below.setCell ?_ (by have:=hw4.size; simp <;> omega) _ | refine Below.alloc ?_ (by have:=hw4.size; simp <;> omega) _ | refine Below.drew ?_))⟩
    ·rw [hk] at pc0 hd0
     have e : (if (8 : Int) = 1 ∨ (8 : Int) = 3 ∨ (8 : Int) = 5 then (1 : Int) else if (8 : Int) = 2 ∨ (8 : Int) = 4 ∨ (8 : Int) = 6 then -1 else 0) = 0:=by decide
     rw [e] at hd0
     have hd1 : (M.length : Int) = (l.length : Int):=by omega
     clear e
     have heq : ((M.length : Int) == (l.length : Int)) = true:=by rw [hd1]; simp
     have hl0:=Aside0.mk hd1
     clear hd0 hd1 hML hl8 hk
     go_wp2
     go_ret
     exact ⟨rfl,(by repeat (first | with_reducible exact hw4 | refine Below.setCell ?_ (by have:=hw4.size; simp <;> omega) _ | refine Below.alloc ?_ (by have:=hw4.size; simp <;> omega) _ | refine Below.drew ?_))⟩
    ·rw [hk] at pc0 hd0
     have e : (if (9 : Int) = 1 ∨ (9 : Int) = 3 ∨ (9 : Int) = 5 then (1 : Int) else if (9 : Int) = 2 ∨ (9 : Int) = 4 ∨ (9 : Int) = 6 then -1 else 0) = 0:=by decide
     rw [e] at hd0
     have hd1 : (M.length : Int) = (l.length : Int):=by omega
     clear e
     have heq : ((M.length : Int) == (l.length : Int)) = true:=by rw [hd1]; simp
     have hl0:=Aside0.mk hd1
     clear hd0 hd1 hML hl8 hk
     go_wp2
     go_ret
     exact ⟨rfl,(by repeat (first | with_reducible exact hw4 | refine Below.setCell ?_ (by have:=hw4.size; simp <;> omega) _ | refine Below.alloc ?_ (by have:=hw4.size; simp <;> omega) _ | refine Below.drew ?_))⟩
    ·have hk0:=Aside0.mk hk
     rw [hk] at pc0 hd0
     have e : (if (10 : Int) = 1 ∨ (10 : Int) = 3 ∨ (10 : Int) = 5 then (1 : Int) else if (10 : Int) = 2 ∨ (10 : Int) = 4 ∨ (10 : Int) = 6 then -1 else 0) = 0:=by decide
     rw [e] at hd0
     have hd1 : M.length = l.length:=by omega
     clear e
     have heq : ((M.length : Int) == (l.length : Int)) = true:=by rw [hd1]; simp
     obtain ⟨hz1,hz2⟩:=hpz.out (by trivial) hk
     replace hz1:=Aside0.mk hz1
     replace hz2:=Aside0.mk hz2
     replace hmw:=Aside0.mk (hmw.out (by trivial) hk)
     have hTr:=Aside0.mk (hTM.out (by trivial))
     have xp0:=Aside0.mk xp
     have B0 : Aside0 (Below w4.heap.size w4 w4):=⟨Below.refl _ _⟩
     replace hd1:=Aside0.mk hd1
     clear hd0 hk
     go_upto_region 18 with (fail)
     go_wp2
     go_loopg [9] M.length (fun kx s9 wr => ∃ i : Nat,s9 = .int .i64 i ∧ i + kx = M.length ∧ Aside0 (Below w4.heap.size w4 wr))
     case atStart => exact ⟨0,rfl,by omega,B0⟩
     case round =>
      clear B0 pc0 pc1 pc2 pc3 pc4 pc5 pc6
      obtain ⟨i,rfl,hi,B1⟩:=hrel
      obtain ⟨pc0,pc1,pc2,pc3,pc4,pc5,pc6⟩:=cells7 (blk_below xp0.out B1.out)
      by_cases hlt : i < M.length
      ·have hi0 : (0 : Int) ≤ (i : Int):=by omega
       have hi1 : (i : Int) < (M.length : Int):=by omega
       have hdb : decide ((i : Int) < (M.length : Int)) = true:=decide_eq_true hi1
       have hwi : IntKind.i64.wrap ((i : Int) + 1) = ((i + 1 : Nat) : Int):=by rw [wrap_small _ (by omega) (by omega)]; omega
       obtain ⟨ad,Y,d,rfl,ry,q0,q1,q2,q3⟩:=ent_at (Kd.C_below hC4.out B1.out) i hlt rfl
       obtain ⟨y,hye⟩ : ∃ y,M.getD i z41 = y:=⟨_,rfl⟩
       rw [hye] at ry q0 q1 q2 q3
       have hym : y ∈ M:=by rw [← hye,getD_get hlt]; exact List.getElem_mem hlt
       have hysz : y.f0.size ≤ 136:=right_size (thing_path (hTr.out.t y hym))
       have hfy:=hmw.out y hym
       have hMv:=fun U => movedR_at y.f0 p.f2 p.f1 U (by have:=hz1.out; omega)
       obtain ⟨y',hy'⟩ : ∃ y',mvP y.f0 p.f2 p.f1 = y':=⟨_,rfl⟩
       rw [hy'] at hfy
       have hth : thingAt l y' = { y with f0:=y' }:=by unfold thingAt; rw [hfy]; rfl
       have hyn0:=hx.out _ (find_mem hfy).1
       have hyn : y.f2.length ≤ 140737488355328:=hyn0
       clear hyn0
       have hFd : ∀ U,Below w.heap.size w U → Calls Tryz.prog 33 #[.slice A l.length c,.string y'] U fun e w' => ∃ X d,e = .returned (.tuple #[.agg #[.string y',.int .i64 y.f1,.slice X y.f2.length d,.string y.f3],.bool true]) ∧ y.f2.length ≤ d ∧ Kd.string.C w' X y.f2.length y.f2 ∧ Below U.heap.size U w':=fun U h => by
        have h3:=find_at l A c y' w hr.out hc.out hn.out U h
        rw [hth,hfy] at h3
        exact h3
       have hwr0 : Below w.heap.size w wr:=hw4.trans (B1.out.mono hw4.size)
       have wn : Aside0 (y.f0.size ≤ 136):=⟨hysz⟩
       replace hFd:=Aside0.mk hFd
       replace hyn:=Aside0.mk hyn
       replace ry:=Aside0.mk ry
       clear hye hym hfy hth hysz
       go_upto_region 22 with (fail)
       clear q0 q1 q2 q3
       have hyc : ∀ W,Below (wr.alloc (.cells #[.string y.f0,.int .i64 y.f1,.slice Y y.f2.length d,.string y.f3] 41)).heap.size (wr.alloc (.cells #[.string y.f0,.int .i64 y.f1,.slice Y y.f2.length d,.string y.f3] 41)) W → W.heap[wr.heap.size]? = some (.cells #[.string y.f0,.int .i64 y.f1,.slice Y y.f2.length d,.string y.f3] 41 (0,0)):=fun W h => blk_below (blk_new wr _) h
       have hBy : Below wr.heap.size wr (wr.alloc (.cells #[.string y.f0,.int .i64 y.f1,.slice Y y.f2.length d,.string y.f3] 41)):=below_alloc (Below.refl _ _) _
       obtain ⟨t0,t1,t2,t3⟩:=cells4 (blk_new wr (.cells #[.string y.f0,.int .i64 y.f1,.slice Y y.f2.length d,.string y.f3] 41))
       have pr1:=pw_cell_below hBy pc1
       have pr2:=pw_cell_below hBy pc2
       cases hwv : withinB y.f0 p.f2 with
       | true =>
        have hy2 : y' = mv y.f0 p.f2 p.f1:=by rw [← hy']; unfold mvP; rw [hwv]; rfl
        rw [hwv] at hMv
        replace hwv:=Aside0.mk hwv
        have hMv2 : ∀ U,Calls Tryz.prog 34 #[.string y.f0,.string p.f2,.string p.f1] U fun e w' => e = .returned (.tuple #[.string y',.bool true]) ∧ Below U.heap.size U w':=fun U => by have h3:=hMv U; rw [if_pos rfl,← hy2] at h3; exact h3
        clear hMv hy'
        replace hy2:=Aside0.mk hy2
        go_wp2_with (fail)
        refine (hMv2 _).mono ?_
        rintro e v1 ⟨rfl,hc1⟩
        clear t0 t1 t2 t3 pr1 pr2
        have xy:=hyc v1 hc1
        obtain ⟨t0,t1,t2,t3⟩:=cells4 xy
        have hv1 : Below wr.heap.size wr v1:=hBy.trans (hc1.mono hBy.size)
        clear hc1 hMv2
        have hv2 : Below wr.heap.size wr (v1.setCell ⟨wr.heap.size,0,none⟩ (.string y')):=below_setCell4 hv1 (Nat.le_refl _)
        have xy2 : (v1.setCell ⟨wr.heap.size,0,none⟩ (.string y')).heap[wr.heap.size]? = some (.cells #[.string y',.int .i64 y.f1,.slice Y y.f2.length d,.string y.f3] 41 (0,0)):=blk_set xy 0 _
        have hf0:=blk_frozen xy 0
        generalize hV : v1.setCell ⟨wr.heap.size,0,none⟩ (.string y') = v2 at hv2 xy2
        go_upto_region 25 with (fail)
        try rw [hV]
        clear t0 t1 t2 t3 xy hf0 hV hv1
        obtain ⟨t0,t1,t2,t3⟩:=cells4 xy2
        go_wp2_with (fail)
        refine (hFd.out v2 (hwr0.trans (hv2.mono hwr0.size))).mono ?_
        rintro e v3 ⟨Z3,dz,rfl,hdz,hZ3,hc3⟩
        clear t0 t1 t2 t3
        have xy3:=blk_below xy2 hc3
        have hv3 : Below wr.heap.size wr v3:=hv2.trans (hc3.mono hv2.size)
        obtain ⟨t0,t1,t2,t3⟩:=cells4 (blk_alloc xy3 (.cells #[.string y',.int .i64 y.f1,.slice Z3 y.f2.length dz,.string y.f3] 41))
        obtain ⟨T,hT⟩ : ∃ T,T = ((v3.alloc (.cells #[.string y',.int .i64 y.f1,.slice Z3 y.f2.length dz,.string y.f3] 41)).alloc (.cells #[.string y',.int .i64 y.f1,.slice Y y.f2.length d,.string y.f3] 41)).alloc (.cells #[.string y',.int .i64 y.f1,.slice Z3 y.f2.length dz,.string y.f3] 41):=⟨_,rfl⟩
        have hBT : Below v3.heap.size v3 T:=by rw [hT]; exact ((below_alloc (Below.refl _ _) _).alloc (by simp) _).alloc (by simp; omega) _
        have e1 : T.heap[v3.heap.size + 1]? = some (.cells #[.string y',.int .i64 y.f1,.slice Y y.f2.length d,.string y.f3] 41 (0,0)):=by rw [hT]; exact blk_alloc (box2 v3 _ _) _
        have e2 : T.heap[v3.heap.size + 1 + 1]? = some (.cells #[.string y',.int .i64 y.f1,.slice Z3 y.f2.length dz,.string y.f3] 41 (0,0)):=by
         rw [hT]
         have h:=blk_new ((v3.alloc (.cells #[.string y',.int .i64 y.f1,.slice Z3 y.f2.length dz,.string y.f3] 41)).alloc (.cells #[.string y',.int .i64 y.f1,.slice Y y.f2.length d,.string y.f3] 41)) (.cells #[.string y',.int .i64 y.f1,.slice Z3 y.f2.length dz,.string y.f3] 41)
         simpa using h
        have hvT : Below wr.heap.size wr T:=hv3.trans (hBT.mono hv3.size)
        have hSm:=sameE_at [{ y with f0:=y' }] (by show 1 ≤ _; decide) (fun x hx' => by rw [List.mem_singleton.1 hx']; exact hyn.out) (some ⟨v3.heap.size + 1,0,none⟩) 1 (some ⟨v3.heap.size + 1 + 1,0,none⟩) 1 T (entC (x:={ y with f0:=y' }) e1 (Kd.C_below ry.out.g hvT) ry.out.l) (by show 1 ≤ _; decide) (entC (x:={ y with f0:=y' }) e2 (Kd.C_below hZ3 hBT) hdz) (by show 1 ≤ _; decide)
        replace hSm:=Aside0.mk hSm
        have hkeep:=Aside0.mk (B1.out.trans (hvT.mono B1.out.size))
        clear e1 e2 hc3 hdz hZ3
        go_wp2_with (fail)
        rw [← hT]
        clear hT
        refine hSm.out.mono ?_
        rintro e v4 ⟨rfl,hc4⟩
        have hfin:=Aside0.mk (hkeep.out.trans (hc4.mono hkeep.out.size))
        clear t0 t1 t2 t3 hc4
        go_wp2
        go_roundg (M.length - (i + 1))
        case measure => omega
        case rel => exact ⟨i + 1,by first | rfl | (rw [hwi]),by omega,hfin⟩
       | false =>
        have hy2 : y' = y.f0:=by rw [← hy']; unfold mvP; rw [hwv]; rfl
        rw [hwv] at hMv
        replace hwv:=Aside0.mk hwv
        have hMv2 : ∀ U,Calls Tryz.prog 34 #[.string y.f0,.string p.f2,.string p.f1] U fun e w' => e = .returned (.tuple #[.string ⟨#[]⟩,.bool false]) ∧ Below U.heap.size U w':=fun U => by have h3:=hMv U; rw [if_neg (by decide)] at h3; exact h3
        clear hMv hy'
        go_wp2_with (fail)
        refine (hMv2 _).mono ?_
        rintro e v1 ⟨rfl,hc1⟩
        clear t0 t1 t2 t3 pr1 pr2
        have xy:=hyc v1 hc1
        obtain ⟨t0,t1,t2,t3⟩:=cells4 xy
        have hv1 : Below wr.heap.size wr v1:=hBy.trans (hc1.mono hBy.size)
        clear hc1 hMv2
        subst hy2
        obtain ⟨v2,hV⟩ : ∃ v2,v2 = v1:=⟨_,rfl⟩
        have hv2 : Below wr.heap.size wr v2:=by rw [hV]; exact hv1
        have xy2 : v2.heap[wr.heap.size]? = some (.cells #[.string y.f0,.int .i64 y.f1,.slice Y y.f2.length d,.string y.f3] 41 (0,0)):=by rw [hV]; exact xy
        go_upto_region 25 with (fail)
        rw [← hV]
        clear t0 t1 t2 t3 xy hV hv1
        obtain ⟨t0,t1,t2,t3⟩:=cells4 xy2
        go_wp2_with (fail)
        refine (hFd.out v2 (hwr0.trans (hv2.mono hwr0.size))).mono ?_
        rintro e v3 ⟨Z3,dz,rfl,hdz,hZ3,hc3⟩
        clear t0 t1 t2 t3
        have xy3:=blk_below xy2 hc3
        have hv3 : Below wr.heap.size wr v3:=hv2.trans (hc3.mono hv2.size)
        obtain ⟨t0,t1,t2,t3⟩:=cells4 (blk_alloc xy3 (.cells #[.string y.f0,.int .i64 y.f1,.slice Z3 y.f2.length dz,.string y.f3] 41))
        obtain ⟨T,hT⟩ : ∃ T,T = ((v3.alloc (.cells #[.string y.f0,.int .i64 y.f1,.slice Z3 y.f2.length dz,.string y.f3] 41)).alloc (.cells #[.string y.f0,.int .i64 y.f1,.slice Y y.f2.length d,.string y.f3] 41)).alloc (.cells #[.string y.f0,.int .i64 y.f1,.slice Z3 y.f2.length dz,.string y.f3] 41):=⟨_,rfl⟩
        have hBT : Below v3.heap.size v3 T:=by rw [hT]; exact ((below_alloc (Below.refl _ _) _).alloc (by simp) _).alloc (by simp; omega) _
        have e1 : T.heap[v3.heap.size + 1]? = some (.cells #[.string y.f0,.int .i64 y.f1,.slice Y y.f2.length d,.string y.f3] 41 (0,0)):=by rw [hT]; exact blk_alloc (box2 v3 _ _) _
        have e2 : T.heap[v3.heap.size + 1 + 1]? = some (.cells #[.string y.f0,.int .i64 y.f1,.slice Z3 y.f2.length dz,.string y.f3] 41 (0,0)):=by
         rw [hT]
         have h:=blk_new ((v3.alloc (.cells #[.string y.f0,.int .i64 y.f1,.slice Z3 y.f2.length dz,.string y.f3] 41)).alloc (.cells #[.string y.f0,.int .i64 y.f1,.slice Y y.f2.length d,.string y.f3] 41)) (.cells #[.string y.f0,.int .i64 y.f1,.slice Z3 y.f2.length dz,.string y.f3] 41)
         simpa using h
        have hvT : Below wr.heap.size wr T:=hv3.trans (hBT.mono hv3.size)
        have hSm:=sameE_at [{ y with f0:=y.f0 }] (by show 1 ≤ _; decide) (fun x hx' => by rw [List.mem_singleton.1 hx']; exact hyn.out) (some ⟨v3.heap.size + 1,0,none⟩) 1 (some ⟨v3.heap.size + 1 + 1,0,none⟩) 1 T (entC (x:={ y with f0:=y.f0 }) e1 (Kd.C_below ry.out.g hvT) ry.out.l) (by show 1 ≤ _; decide) (entC (x:={ y with f0:=y.f0 }) e2 (Kd.C_below hZ3 hBT) hdz) (by show 1 ≤ _; decide)
        replace hSm:=Aside0.mk hSm
        have hkeep:=Aside0.mk (B1.out.trans (hvT.mono B1.out.size))
        clear e1 e2 hc3 hdz hZ3
        go_wp2_with (fail)
        rw [← hT]
        clear hT
        refine hSm.out.mono ?_
        rintro e v4 ⟨rfl,hc4⟩
        have hfin:=Aside0.mk (hkeep.out.trans (hc4.mono hkeep.out.size))
        clear t0 t1 t2 t3 hc4
        go_wp2
        go_roundg (M.length - (i + 1))
        case measure => omega
        case rel => exact ⟨i + 1,by first | rfl | (rw [hwi]),by omega,hfin⟩
      ·have hdb : decide ((i : Int) < (M.length : Int)) = false:=decide_eq_false (by omega)
       have hwr0 : Below w.heap.size w wr:=hw4.trans (B1.out.mono hw4.size)
       go_wp2
       go_ret
       exact ⟨rfl,hwr0⟩
   ·skip
    have hne : (E != 0) = true:=by rw [bne_iff_ne]; exact hz
    have hne2 : (E == 0) = false:=by rw [beq_eq_false_iff_ne]; exact hz
    have hS':=hSn.out hz
    subst hS'
    clear hz hS hSn
    go_wp2
    go_ret
    exact ⟨rfl,(by repeat (first | with_reducible exact hw4 | refine Below.setCell ?_ (by have:=hw4.size; simp <;> omega) _ | refine Below.alloc ?_ (by have:=hw4.size; simp <;> omega) _ | refine Below.drew ?_))⟩
end Go.Proofs.YthhohbidjhcjeaaGreatDoor.H
namespace Go.Proofs.YthhohbidjhcjeaaGreatDoor.RPrimCounts
open Go.ChangeShapes Go.WideShapes Go.ChangeAt Go.RowKit Go.Proofs.YthhohbidjhcjeaaGreatDoorW.PrintWords Go.Proofs.YthhohbidjhcjeaaGreatDoorW.PrintMore Go.Proofs.YthhohbidjhcjeaaGreatDoor.Q Go.Proofs.YthhohbidjhcjeaaGreatDoor.Op Go.Proofs.YthhohbidjhcjeaaGreatDoor.Pl Go.Proofs.YthhohbidjhcjeaaGreatDoor.Od
set_option maxRecDepth 100000 in
theorem lifted (os : Os) (started : os.Started) (H : Type) (enc : TypeId × Value → H) :
  ReturnsInHanded {} Tryz.checked os 6 .any (fun w args => (Rows.primCountsSpec.pre enc Tryz.prog Tryz.f6 [] false w args ∧ laidMetH Tryz.prog laidTabs w) ∧ sizedMet enc Tryz.prog Tryz.f6 (OpenSpec.ofChange Rows.primCountsSpec) false w args)
   (Rows.primCountsSpec.post enc Tryz.prog Tryz.f6 false true false false):=by
 refine returnsInHanded_of_change_and (C:=Tryz.checked) (X:=fun w _ => laidMetH Tryz.prog laidTabs w) (fun _ _ _ hh h => h.of_heap hh) own started (by kernel_rfl) Tryz.func6
  (ChangeSpec.witness_shaped (enc:=enc) (C:=Tryz.checked) (os:=os) (X:=fun w _ => laidMetH Tryz.prog laidTabs w) false (World.laidAll Tryz.prog os laidTabs) #[.slice none 0 0,.agg #[.int .i64 0,.string ByteArray.empty,.string ByteArray.empty,.string ByteArray.empty,.int .i64 0,.slice none 0 0,.slice none 0 0]] 8 (World.laidAll_os _ _ _)
   (World.shaped_of_ZipB (by kernel_rfl) (by kernel_rfl)) (by kernel_rfl) (by kernel_rfl) (by kernel_rfl)
   (by rw [MakeChecks.laidMetH_plain _ _ _ (by kernel_rfl)]; exact laidMet_laidAll _ (by kernel_rfl) (by kernel_rfl))) ?_
 intro W base args ds gs before hval0 hW _ hsz0 hL _
 have hsz : (DataW.weightsEach Tryz.prog (Tryz.f6.params.toList ++ Rows.primCountsSpec.plain.varTypes Tryz.prog) (ds ++ gs)).all (· ≤ reachBytes) = true:=hsz0
 have hval : ∀ (j : Nat) t v,Tryz.f6.params[j]? = some t → args[j]? = some v → Value.okWide Tryz.prog W .any base t v:=hval0
 have hW':=hW
 obtain ⟨p,q,hA0,hV,rfl,hfz,hnd⟩:=hW
 have hA : DataW.TrodAll enc Tryz.prog W 0 (fun _ => true) true Tryz.f6.params.toList args.toList ds p:=hA0
 rw [Tryz.params6] at hA hval hsz
 obtain ⟨v0,vs0,d0,ds0,p0,q0,hargs,rfl,rfl,h0,r0⟩:=trodAll_cons hA
 obtain ⟨v1,vs1,d1,ds1,p1,q1,rfl,rfl,rfl,h1,r1⟩:=trodAll_cons r0
 obtain ⟨rfl,rfl,rfl⟩:=trodAll_nil r1
 obtain rfl : args = #[v0,v1]:=by cases args; simp_all
 obtain ⟨rfl,rfl⟩:=trodVars_none hV
 have k0:=h0
 have lt0 : ∀ x ∈ p0,x.block < W.heap.size:=by obtain ⟨m,hm⟩:=k0; exact DataW.trod_lt m _ _ _ hm
 obtain ⟨x0,hK0,hG0⟩:=opened o22 h0 hsz (j:=0) rfl rfl
 obtain ⟨B0,u0,hc0,lu0,g0⟩:=hK0
 obtain ⟨b0,n0,m0,rfl⟩:=okWide_slice Tryz.underlying22 (hval 0 22 v0 rfl rfl)
 obtain ⟨rfl,rfl,rfl⟩ : b0 = B0 ∧ n0 = x0.length ∧ m0 = u0:=by simpa [Value.cells] using hc0
 obtain ⟨_,hb0,hg0⟩:=hG0
 have k1:=h1
 have lt1 : ∀ x ∈ p1,x.block < W.heap.size:=by obtain ⟨m,hm⟩:=k1; exact DataW.trod_lt m _ _ _ hm
 obtain ⟨x1,hK1,hG1⟩:=opened o25 h1 hsz (j:=1) rfl rfl
 obtain ⟨c1,rfl,_⟩:=okWide_struct Tryz.underlying25 (hval 1 25 v1 rfl rfl)
 obtain ⟨A15,c15,A16,c16,hc1,l15,g15,l16,g16⟩:=k25_open hK1
 obtain rfl : c1 = #[.int .i64 x1.f0,.string x1.f1,.string x1.f2,.string x1.f3,.int .i64 x1.f4,.slice A15 x1.f5.length c15,.slice A16 x1.f6.length c16]:=by rw [← Array.toList_inj]; exact hc1
 clear hA0 hval0 hsz0 hsz
 refine (Go.Proofs.YthhohbidjhcjeaaGreatDoor.H.counts_calls x0 b0 m0 x1 A15 c15 A16 c16 W g0 lu0 (by omega) (fun x hx => (hg0 x hx).n) hG1 ⟨g15,l15,g16,l16⟩).mono fun e W' ⟨he,bel⟩ => ?_
 subst he
 exact ⟨_,rfl,_,_,_,[],_,[],hW',trodAll_mk1 (shut_bool Tryz.underlying4 _),(trodAll_cons_mk (Below.trod laidOut (by kernel_rfl) (of_decide_eq_true (by kernel_rfl)) k0 bel lt0) (trodAll_cons_mk (Below.trod laidOut (by kernel_rfl) (of_decide_eq_true (by kernel_rfl)) k1 bel lt1) trodAll_mk0)),rfl,bel.frame _,fun h => by cases h⟩
theorem band {a b : Bool} (ha : a = true) (hb : b = true) : (a && b) = true:=by rw [ha,hb]; rfl
set_option maxHeartbeats 4000000 in
theorem facts : joinedFacts Tryz.prog 6 Tryz.f6 Rows.primCountsSpec Rows.primCountsRow = true:=by
 unfold joinedFacts
 repeat' (with_reducible refine band ?_ ?_)
 all_goals (first | (with_reducible exact heads.1) | (rw [heads.2.1]; rfl) | (rw [heads.2.2.1]; rfl) | (as_aux_lemma => kernel_rfl))
set_option maxHeartbeats 4000000 in
theorem over : Rows.primCountsRow.holds Tryz.pinned (OpenSpec.ofChange Rows.primCountsSpec) :=
 OpenClaim.holds_of_wide 6 Tryz.f6 rfl rfl rfl rfl rfl rfl rfl ⟨rfl,rfl,rfl,rfl,rfl⟩ rfl rfl rfl rfl rfl (by as_aux_lemma => kernel_rfl) Tryz.func6 facts
  (of_decide_eq_true (by as_aux_lemma => kernel_rfl)) (by unfold Func.isWrapper; first | (rw [if_pos (by decide +kernel)]; kernel_rfl) | (rw [if_neg (by decide +kernel)]; exact ⟨rfl,rfl⟩))
  (fun os started H enc _ => lifted os started H enc)
set_option maxHeartbeats 4000000 in
theorem card : Rows.PrimCountsCardSaid :=
 Claim7.holds_tied_plain_at .later [] [.data, .pinned] true (true, "b2c3b2d2b50221d5631762a848752805bff427337fd1c8fab364110e20b5edb9") false over (fun _ h => by cases h) (by as_aux_lemma => kernel_rfl) (fun _ h => by cases h) primCounts_row_tie rfl ⟨rfl, rfl⟩ heads.2.2.2 rfl
  (fun f fn hf hfn => by
   obtain rfl : f = 6:=Option.some.inj ((show Tryz.prog.funcNamed Rows.primCountsRow.func = some 6 by as_aux_lemma => kernel_rfl).symm.trans hf) |>.symm
   obtain rfl : fn = Tryz.f6:=(Option.some.inj (Tryz.func6.symm.trans hfn)).symm
   exact ⟨by as_aux_lemma => kernel_rfl,fun j t ht => by
    rw [Tryz.params6] at ht
    have hm : t ∈ [22,25]:=by simpa using Array.mem_of_getElem? ht
    have hall : ([22,25].all fun u => !Tryz.prog.wantsStandIn u) = true:=by as_aux_lemma => kernel_rfl
    exact (show Tryz.prog.wantsStandIn t = false by simpa using List.all_eq_true.1 hall t hm)⟩)
  (by as_aux_lemma => kernel_rfl)
end Go.Proofs.YthhohbidjhcjeaaGreatDoor.RPrimCounts
namespace Go.Proofs.YthhohbidjhcjeaaGreatDoor
/-- The card of PrimCounts. -/
theorem PrimCounts_card : Rows.PrimCountsCardSaid:=RPrimCounts.card
#print axioms PrimCounts_card
end Go.Proofs.YthhohbidjhcjeaaGreatDoor
