/- What the head of this seat's program says, told once for all rows. -/
import Derived.Test.YthhohbidjhcjeaaGreatDoorGM4
import Derived.Test.YthhohbidjhcjeaaGreatDoorGM6
import Derived.Test.YthhohbidjhcjeaaGreatDoorGM5
import Derived.Test.YthhohbidjhcjeaaGreatDoorGM7
import Derived.Test.YthhohbidjhcjeaaGreatDoorGM1
import Derived.Test.YthhohbidjhcjeaaGreatDoorGWd
import Derived.Deep.Slices
import Derived.Deep.Fields
import Derived.ChangeSame
import Derived.ProofKit
import Derived.SizedLaws
import Derived.Test.YthhohbidjhcjeaaGreatDoorRows
import Derived.Test.YthhohbidjhcjeaaGreatDoorGM2
import Derived.WalkKit
namespace Go.Proofs.YthhohbidjhcjeaaGreatDoor.H
open Go.RowKit Go.Proofs.YthhohbidjhcjeaaGreatDoor.Q Go.Proofs.YthhohbidjhcjeaaGreatDoor.Pl
set_option linter.unusedVariables false
set_option linter.unusedSimpArgs false
def Rg (p : S25) (s : ByteArray) : Prop:=withinB s p.f1 = true ∨ (p.f0 = 10 ∧ withinB s p.f2 = true)
def isAdd (p : S25) : Prop:=p.f0 = 1 ∨ p.f0 = 3 ∨ p.f0 = 5
def tgt (p : S25) : ByteArray:=if p.f0 = 10 then p.f2 else p.f1
theorem do_else {l : List S41} {p : S25} (h : applyE l p = 0) {s : ByteArray} (hs : ¬ Rg p s) : findV (doL l p) s = findV l s:=by
 obtain ⟨ht,hp,hd⟩:=apply_zero.mp h
 have h1 : withinB s p.f1 = false:=by
  cases k : withinB s p.f1 with
  | false => rfl
  | true => exact absurd (.inl k) hs
 have hne : s ≠ p.f1:=fun e => by rw [e,within_refl] at h1; cases h1
 rcases kinds4 hp with hk | hk | ⟨h7,h9⟩ | h10
 ·obtain ⟨e1,e2⟩:=doE_add (l:=l) hk
  rw [e1] at hd
  rw [e2,ins_find ht.s (x:=newE p) (add_zero.mp hd).1]
  exact if_neg hne
 ·obtain ⟨e1,e2⟩:=doE_remove (l:=l) hk
  rw [e1] at hd
  rw [e2,del_find ht.s ((remove_zero ht.s).mp hd).1,if_neg hne]
 ·obtain ⟨e1,e2⟩:=doE_change (l:=l) h7 h9
  rw [e1] at hd
  obtain ⟨x,y,hx,hk,hc⟩:=change_zero.mp hd
  rw [e2,change_L hx hc,set_find ht.s hx ((change_f0 hc).1.trans (find_mem hx).2),if_neg hne]
 ·obtain ⟨e1,e2⟩:=doE_move (l:=l) h10
  rw [e1] at hd
  obtain ⟨⟨x0,hx0⟩,hn,hu,hr⟩:=move_zero.mp hd
  have h2 : withinB s p.f2 = false:=by
   cases k : withinB s p.f2 with
   | false => rfl
   | true => exact absurd (.inr ⟨h10,k⟩) hs
  rw [e2]
  unfold moveL
  rw [move_find ht.s (ht.none_within hn),h1,h2,if_neg (by simp),if_neg (by simp)]
theorem do_own {l k : List S41} {p : S25} (h : applyE l p = 0) (hk : Tr k) (hs : ∀ s,Rg p s → findV l s = findV k s) (hu : Up l (tgt p) → Up k (tgt p)) (hn : isAdd p → k.length ≠ 1024) :
  applyE k p = 0 ∧ ∀ s,Rg p s → findV (doL l p) s = findV (doL k p) s:=by
 obtain ⟨ht,hp,hd⟩:=apply_zero.mp h
 have hown : Rg p p.f1:=.inl (within_refl _)
 rw [apply_zero]
 refine (fun (z : doE k p = 0 ∧ ∀ s,Rg p s → findV (doL l p) s = findV (doL k p) s) => ⟨⟨hk,hp,z.1⟩,z.2⟩) ?_
 rcases kinds4 hp with hkd | hkd | ⟨h7,h9⟩ | h10
 ·obtain ⟨e1,e2⟩:=doE_add (l:=l) hkd
  obtain ⟨e3,e4⟩:=doE_add (l:=k) hkd
  rw [e1] at hd
  rw [e2,e3,e4]
  obtain ⟨g1,g2,g3⟩:=add_zero.mp hd
  have et : tgt p = p.f1:=if_neg (by omega)
  rw [et] at hu
  have g1' : findV k p.f1 = none:=by rw [← hs _ hown,g1]
  refine ⟨add_zero.mpr ⟨g1',hu g2,hn hkd⟩,fun s h => ?_⟩
  rw [ins_find ht.s (x:=newE p) g1,ins_find hk.s (x:=newE p) g1',hs s h]
 ·obtain ⟨e1,e2⟩:=doE_remove (l:=l) hkd
  obtain ⟨e3,e4⟩:=doE_remove (l:=k) hkd
  rw [e1] at hd
  rw [e2,e3,e4]
  obtain ⟨g1,g2⟩:=(remove_zero ht.s).mp hd
  have g1' : findV k p.f1 = some (newE p):=by rw [← hs _ hown,g1]
  refine ⟨(remove_zero hk.s).mpr ⟨g1',fun x hx hw => ?_⟩,fun s h => ?_⟩
  ·have hx':=find_of_mem hk.s hx
   rw [← hs _ (.inl hw)] at hx'
   exact g2 x (find_mem hx').1 hw
  ·rw [del_find ht.s g1,del_find hk.s g1',hs s h]
 ·obtain ⟨e1,e2⟩:=doE_change (l:=l) h7 h9
  obtain ⟨e3,e4⟩:=doE_change (l:=k) h7 h9
  rw [e1] at hd
  rw [e2,e3,e4]
  obtain ⟨x,y,hx,hkk,hc⟩:=change_zero.mp hd
  have hx' : findV k p.f1 = some x:=by rw [← hs _ hown,hx]
  have e:=(change_f0 hc).1.trans (find_mem hx).2
  refine ⟨change_zero.mpr ⟨x,y,hx',hkk,hc⟩,fun s h => ?_⟩
  rw [change_L hx hc,change_L hx' hc,set_find ht.s hx e,set_find hk.s hx' e,hs s h]
 ·obtain ⟨e1,e2⟩:=doE_move (l:=l) h10
  obtain ⟨e3,e4⟩:=doE_move (l:=k) h10
  rw [e1] at hd
  rw [e2,e3,e4]
  obtain ⟨⟨x0,hx0⟩,g1,g2,g3⟩:=move_zero.mp hd
  have et : tgt p = p.f2:=if_pos h10
  rw [et] at hu
  have g1' : findV k p.f2 = none:=by rw [← hs _ (.inr ⟨h10,within_refl _⟩),g1]
  have w1:=ht.none_within g1
  have w2:=hk.none_within g1'
  refine ⟨move_zero.mpr ⟨⟨x0,by rw [← hs _ hown,hx0]⟩,g1',hu g2,fun x hx => ?_⟩,fun s h => ?_⟩
  ·cases hw : withinB x.f0 p.f1 with
   | false => rw [mvP_out _ hw]; exact ((thing_iff x).mp (hk.t x hx)).1
   | true =>
    have hx':=find_of_mem hk.s hx
    rw [← hs _ (.inl hw)] at hx'
    exact g3 x (find_mem hx').1
  ·unfold moveL
   rw [move_find ht.s w1,move_find hk.s w2]
   cases k2 : withinB s p.f2 with
   | true =>
    rw [if_pos rfl,if_pos rfl,hs _ (.inl (mv_within p.f1 k2))]
   | false =>
    cases k1 : withinB s p.f1 with
    | true => simp only [Bool.false_eq_true,if_false,if_true]
    | false =>
     simp only [Bool.false_eq_true,if_false]
     exact hs s h
def dLen (p : S25) : Int:=if p.f0 = 1 ∨ p.f0 = 3 ∨ p.f0 = 5 then 1 else if p.f0 = 2 ∨ p.f0 = 4 ∨ p.f0 = 6 then -1 else 0
theorem do_len {l : List S41} {p : S25} (h : applyE l p = 0) : ((doL l p).length : Int) = l.length + dLen p:=by
 obtain ⟨ht,hp,hd⟩:=apply_zero.mp h
 unfold dLen
 rcases kinds4 hp with hk | hk | ⟨h7,h9⟩ | h10
 ·obtain ⟨e1,e2⟩:=doE_add (l:=l) hk
  rw [e2,if_pos hk,ins_len]; omega
 ·obtain ⟨e1,e2⟩:=doE_remove (l:=l) hk
  rw [e1] at hd
  have:=del_len ht.s ((remove_zero ht.s).mp hd).1
  rw [e2,if_neg (by omega),if_pos hk]; omega
 ·obtain ⟨e1,e2⟩:=doE_change (l:=l) h7 h9
  rw [e2,if_neg (by omega),if_neg (by omega)]
  unfold changeL
  rw [set_len]; omega
 ·obtain ⟨e1,e2⟩:=doE_move (l:=l) h10
  rw [e2,if_neg (by omega),if_neg (by omega)]
  unfold moveL
  rw [sort_len,List.length_map]; omega
def Far (p q : S25) : Prop:=∀ s,¬ (Rg p s ∧ Rg q s)
theorem far_up {l : List S41} {p q : S25} (h : applyE l p = 0) (hf : Far p q) (hq : Rg q (tgt q)) : Up (doL l p) (tgt q) ↔ Up l (tgt q):=by
 have key : ∀ u,parentV (tgt q) = some u → findV (doL l p) u = findV l u:=fun u hu => do_else h fun hr => by
  refine hf (tgt q) ⟨?_,hq⟩
  rcases hr with hr | ⟨h10,hr⟩
  ·exact .inl (within_trans (parent_within hu) hr)
  ·exact .inr ⟨h10,within_trans (parent_within hu) hr⟩
 unfold Up
 constructor
 ·intro k u hu
  obtain ⟨y,hy⟩:=k u hu
  rw [key u hu] at hy
  exact ⟨y,hy⟩
 ·intro k u hu
  obtain ⟨y,hy⟩:=k u hu
  rw [← key u hu] at hy
  exact ⟨y,hy⟩
theorem rg_tgt (p : S25) : Rg p (tgt p):=by
 unfold tgt
 split
 ·rename_i h; exact .inr ⟨h,within_refl _⟩
 ·exact .inl (within_refl _)
theorem swap_far {l : List S41} {p q : S25} (hf : Far p q) (h1 : applyE l p = 0) (h2 : applyE (doL l p) q = 0) (hn : isAdd q → l.length ≠ 1024) :
  applyE l q = 0 ∧ applyE (doL l q) p = 0 ∧ doL (doL l q) p = doL (doL l p) q:=by
 have hf' : Far q p:=fun s h => hf s h.symm
 have ht:=(apply_zero.mp h1).1
 have ht2:=apply_tree h2
 obtain ⟨a1,a2⟩:=do_own h2 ht (fun s hs => do_else h1 fun hr => hf s ⟨hr,hs⟩) (far_up h1 hf (rg_tgt q)).mp hn
 have ht3:=apply_tree a1
 have hlen : isAdd p → (doL l q).length ≠ 1024:=fun hp => by
  have e1:=do_len h1
  have e2:=do_len h2
  have e3:=do_len a1
  have e4 : dLen p = 1:=if_pos hp
  have:=ht2.n
  omega
 obtain ⟨b1,b2⟩:=do_own h1 ht3 (fun s hs => (do_else a1 fun hr => hf s ⟨hs,hr⟩).symm) (far_up a1 hf' (rg_tgt p)).mpr hlen
 refine ⟨a1,b1,srt_ext (apply_tree b1).s ht2.s fun s => ?_⟩
 by_cases hp : Rg p s
 ·have hq : ¬ Rg q s:=fun k => hf s ⟨hp,k⟩
  rw [← b2 s hp,do_else h2 hq]
 ·rw [do_else b1 hp]
  by_cases hq : Rg q s
  ·rw [← a2 s hq]
  ·rw [do_else a1 hq,do_else h2 hq,do_else h1 hp]
structure Like (l k : List S41) (s : ByteArray) (x y : S41) : Prop where
 tl : Tr l
 tk : Tr k
 x0 : findV l s = some x
 e0 : y.f0 = s
 e1 : y.f1 = x.f1
 f : ∀ t,findV k t = if t = s then some y else findV l t
theorem Like.of_set {l : List S41} {s : ByteArray} {x y : S41} (h : Tr l) (hx : findV l s = some x) (h0 : y.f0 = s) (h1 : y.f1 = x.f1) (hk : Tr (setL l s y)) : Like l (setL l s y) s x y :=
 ⟨h,hk,hx,h0,h1,set_find h.s hx h0⟩
theorem Like.symm {l k : List S41} {s : ByteArray} {x y : S41} (h : Like l k s x y) : Like k l s y x:=by
 refine ⟨h.tk,h.tl,?_,(find_mem h.x0).2,h.e1.symm,fun t => ?_⟩
 ·rw [h.f,if_pos rfl]
 ·rw [h.f]
  by_cases e : t = s
  ·rw [if_pos e,e,h.x0]
  ·rw [if_neg e,if_neg e]
theorem Like.none {l k : List S41} {s : ByteArray} {x y : S41} (h : Like l k s x y) {t : ByteArray} (ht : findV l t = none) : findV k t = none:=by
 rw [h.f,if_neg,ht]
 intro e
 rw [e,h.x0] at ht; cases ht
theorem Like.some {l k : List S41} {s : ByteArray} {x y : S41} (h : Like l k s x y) {t : ByteArray} {z : S41} (hz : findV l t = some z) : ∃ z',findV k t = some z' ∧ z'.f1 = z.f1:=by
 rw [h.f]
 by_cases e : t = s
 ·rw [if_pos e]
  rw [e,h.x0] at hz
  exact ⟨y,rfl,by rw [h.e1,Option.some.inj hz]⟩
 ·rw [if_neg e]; exact ⟨z,hz,rfl⟩
theorem Like.up {l k : List S41} {s : ByteArray} {x y : S41} (h : Like l k s x y) {t : ByteArray} (hu : Up l t) : Up k t:=fun u e => by
 obtain ⟨z,hz,k1⟩:=hu u e
 obtain ⟨z',hz',k2⟩:=h.some hz
 exact ⟨z',hz',by rw [k2,k1]⟩
theorem Like.mem {l k : List S41} {s : ByteArray} {x y : S41} (h : Like l k s x y) {z : S41} (hz : z ∈ k) : ∃ z',z' ∈ l ∧ z'.f0 = z.f0:=by
 obtain ⟨z',hz',_⟩:=h.symm.some (find_of_mem h.tk.s hz)
 exact ⟨z',(find_mem hz').1,(find_mem hz').2⟩
theorem like_low {l k : List S41} {s : ByteArray} {x y : S41} (h : Like l k s x y) (hlen : k.length = l.length) {q : S25} (hq : primB q = true) (hk : q.f0 ≤ 6) (hne : q.f1 ≠ s) (h0 : applyE l q = 0) :
  applyE k q = 0 ∧ ∀ t,findV (doL k q) t = if t = s then some y else findV (doL l q) t:=by
 obtain ⟨_,_,hd⟩:=apply_zero.mp h0
 have hs : ¬ s = q.f1:=fun e => hne e.symm
 rw [apply_zero]
 refine (fun (z : doE k q = 0 ∧ _) => ⟨⟨h.tk,hq,z.1⟩,z.2⟩) ?_
 rcases kinds4 hq with hkd | hkd | ⟨h7,h9⟩ | h10
 ·obtain ⟨e1,e2⟩:=doE_add (l:=l) hkd
  obtain ⟨e3,e4⟩:=doE_add (l:=k) hkd
  rw [e1] at hd
  rw [e2,e3,e4]
  obtain ⟨g1,g2,g3⟩:=add_zero.mp hd
  refine ⟨add_zero.mpr ⟨h.none g1,h.up g2,by rw [hlen]; exact g3⟩,fun t => ?_⟩
  rw [ins_find h.tk.s (x:=newE q) (h.none g1),ins_find h.tl.s (x:=newE q) g1,h.f]
  have e : (newE q).f0 = q.f1:=rfl
  rw [e]
  by_cases a : t = q.f1
  ·rw [if_pos a,if_pos a,if_neg (by rw [a]; exact hne)]
  ·rw [if_neg a,if_neg a]
 ·obtain ⟨e1,e2⟩:=doE_remove (l:=l) hkd
  obtain ⟨e3,e4⟩:=doE_remove (l:=k) hkd
  rw [e1] at hd
  rw [e2,e3,e4]
  obtain ⟨g1,g2⟩:=(remove_zero h.tl.s).mp hd
  have g1' : findV k q.f1 = some (newE q):=by rw [h.f,if_neg hne,g1]
  refine ⟨(remove_zero h.tk.s).mpr ⟨g1',fun z hz hw => ?_⟩,fun t => ?_⟩
  ·obtain ⟨z',hz',e⟩:=h.mem hz
   rw [← e] at hw ⊢
   exact g2 z' hz' hw
  ·rw [del_find h.tk.s g1',del_find h.tl.s g1,h.f]
   by_cases a : t = q.f1
   ·rw [if_pos a,if_pos a,if_neg (by rw [a]; exact hne)]
   ·rw [if_neg a,if_neg a]
 ·omega
 ·omega
theorem like_move {l k : List S41} {s : ByteArray} {x y : S41} (h : Like l k s x y) {q : S25} (hq : primB q = true) (h10 : q.f0 = 10) (h0 : applyE l q = 0) : applyE k q = 0:=by
 obtain ⟨_,_,hd⟩:=apply_zero.mp h0
 rw [apply_zero]
 refine ⟨h.tk,hq,?_⟩
 rw [(doE_move h10).1] at hd ⊢
 obtain ⟨⟨x0,hx0⟩,g1,g2,g3⟩:=move_zero.mp hd
 obtain ⟨x1,hx1,_⟩:=h.some hx0
 refine move_zero.mpr ⟨⟨x1,hx1⟩,h.none g1,h.up g2,fun z hz => ?_⟩
 obtain ⟨z',hz',e⟩:=h.mem hz
 rw [← e]
 exact g3 z' hz'
theorem change_do {l : List S41} {p : S25} (h : applyE l p = 0) (h7 : 7 ≤ p.f0) (h9 : p.f0 ≤ 9) : ∃ x y,findV l p.f1 = some x ∧ x.f1 = kindV p.f0 ∧ changeV x p = some y ∧ doL l p = setL l p.f1 y ∧ Like l (doL l p) p.f1 x y:=by
 obtain ⟨ht,hp,hd⟩:=apply_zero.mp h
 have hT:=apply_tree h
 rw [(doE_change h7 h9).1] at hd
 obtain ⟨x,y,hx,hk,hc⟩:=change_zero.mp hd
 have e : doL l p = setL l p.f1 y:=by rw [(doE_change h7 h9).2,change_L hx hc]
 refine ⟨x,y,hx,hk,hc,e,?_⟩
 rw [e] at hT ⊢
 exact Like.of_set ht hx ((change_f0 hc).1.trans (find_mem hx).2) (change_f0 hc).2 hT
theorem change_can {l : List S41} {p : S25} (ht : Tr l) (hp : primB p = true) (h7 : 7 ≤ p.f0) (h9 : p.f0 ≤ 9) {x y : S41} (hx : findV l p.f1 = some x) (hk : x.f1 = kindV p.f0) (hc : changeV x p = some y) : applyE l p = 0 ∧ ∀ t,findV (doL l p) t = if t = p.f1 then some y else findV l t:=by
 have h0 : applyE l p = 0:=apply_zero.mpr ⟨ht,hp,by rw [(doE_change h7 h9).1]; exact change_zero.mpr ⟨x,y,hx,hk,hc⟩⟩
 refine ⟨h0,fun t => ?_⟩
 rw [(doE_change h7 h9).2,change_L hx hc,set_find ht.s hx ((change_f0 hc).1.trans (find_mem hx).2)]
theorem swap_low_change {l : List S41} {p q : S25} (hp6 : p.f0 ≤ 6) (h7 : 7 ≤ q.f0) (h9 : q.f0 ≤ 9) (hne : p.f1 ≠ q.f1) (h1 : applyE l p = 0) (h2 : applyE (doL l p) q = 0) :
  applyE l q = 0 ∧ applyE (doL l q) p = 0 ∧ doL (doL l q) p = doL (doL l p) q:=by
 obtain ⟨ht,hp,hd⟩:=apply_zero.mp h1
 obtain ⟨_,hq,_⟩:=apply_zero.mp h2
 obtain ⟨x,y,hx,hk,hc,e,L⟩:=change_do h2 h7 h9
 have hT2:=apply_tree h2
 have hf1 : ∀ t,t ≠ p.f1 → findV (doL l p) t = findV l t:=by
  intro t htn
  rcases kinds4 hp with hkd | hkd | ⟨a7,a9⟩ | a10
  ·obtain ⟨e1,e2⟩:=doE_add (l:=l) hkd
   rw [e1] at hd
   rw [e2,ins_find ht.s (x:=newE p) (add_zero.mp hd).1]
   exact if_neg htn
  ·obtain ⟨e1,e2⟩:=doE_remove (l:=l) hkd
   rw [e1] at hd
   rw [e2,del_find ht.s ((remove_zero ht.s).mp hd).1,if_neg htn]
  ·omega
  ·omega
 have hx' : findV l q.f1 = some x:=by rw [← hf1 _ hne.symm,hx]
 obtain ⟨a1,a2⟩:=change_can ht hq h7 h9 hx' hk hc
 obtain ⟨x',y',hx2,_,hc2,_,L2⟩:=change_do a1 h7 h9
 rw [hx'] at hx2
 have:=Option.some.inj hx2
 subst this
 rw [hc] at hc2
 have:=Option.some.inj hc2
 subst this
 have hl2:=do_len a1
 have hz : dLen q = 0:=by unfold dLen; rw [if_neg (by omega),if_neg (by omega)]
 obtain ⟨b1,b2⟩:=like_low L2 (by omega) hp hp6 hne h1
 refine ⟨a1,b1,srt_ext (apply_tree b1).s hT2.s fun s => ?_⟩
 rw [b2,L.f]
theorem swap_change_low {l : List S41} {p q : S25} (h7 : 7 ≤ p.f0) (h9 : p.f0 ≤ 9) (hq6 : q.f0 ≤ 6) (hne : p.f1 ≠ q.f1) (h1 : applyE l p = 0) (h2 : applyE (doL l p) q = 0) :
  applyE l q = 0 ∧ applyE (doL l q) p = 0 ∧ doL (doL l q) p = doL (doL l p) q:=by
 obtain ⟨ht,hp,hd⟩:=apply_zero.mp h1
 obtain ⟨_,hq,_⟩:=apply_zero.mp h2
 obtain ⟨x,y,hx,hk,hc,e,L⟩:=change_do h1 h7 h9
 have hl:=do_len h1
 have hz : dLen p = 0:=by unfold dLen; rw [if_neg (by omega),if_neg (by omega)]
 obtain ⟨a1,a2⟩:=like_low L.symm (by omega) hq hq6 hne.symm h2
 have hT:=apply_tree a1
 have hx' : findV (doL l q) p.f1 = some x:=by rw [a2,if_pos rfl]
 obtain ⟨b1,b2⟩:=change_can hT hp h7 h9 hx' hk hc
 refine ⟨a1,b1,srt_ext (apply_tree b1).s (apply_tree h2).s fun s => ?_⟩
 obtain ⟨c1,c2⟩:=like_low L (by omega) hq hq6 hne.symm a1
 rw [b2,c2]
theorem swap_changes {l : List S41} {p q : S25} (h7 : 7 ≤ p.f0) (h9 : p.f0 ≤ 9) (k7 : 7 ≤ q.f0) (k9 : q.f0 ≤ 9) (hne : p.f1 ≠ q.f1) (h1 : applyE l p = 0) (h2 : applyE (doL l p) q = 0) :
  applyE l q = 0 ∧ applyE (doL l q) p = 0 ∧ doL (doL l q) p = doL (doL l p) q:=by
 obtain ⟨ht,hp,hd⟩:=apply_zero.mp h1
 obtain ⟨ht2,hq,_⟩:=apply_zero.mp h2
 obtain ⟨x,y,hx,hk,hc,e,L⟩:=change_do h1 h7 h9
 obtain ⟨x2,y2,hx2,hk2,hc2,e2,L2⟩:=change_do h2 k7 k9
 have hx2' : findV l q.f1 = some x2:=by rw [L.f,if_neg hne.symm] at hx2; exact hx2
 obtain ⟨a1,a2⟩:=change_can ht hq k7 k9 hx2' hk2 hc2
 have hx' : findV (doL l q) p.f1 = some x:=by rw [a2,if_neg hne,hx]
 obtain ⟨b1,b2⟩:=change_can (apply_tree a1) hp h7 h9 hx' hk hc
 refine ⟨a1,b1,srt_ext (apply_tree b1).s (apply_tree h2).s fun s => ?_⟩
 rw [b2,a2,L2.f,L.f]
 by_cases u : s = p.f1
 ·rw [if_pos u,if_neg (by rw [u]; exact hne),if_pos u]
 ·rw [if_neg u,if_neg u]
theorem hunks_behind {L M N old new old2 new2 : List ByteArray} {a b : Int} (h1 : hunkV L a old new = some M) (h2 : hunkV M b old2 new2 = some N) (hlt : a < b - (new.length : Int)) :
  ∃ M',hunkV L (b + ((old.length : Int) - (new.length : Int))) old2 new2 = some M' ∧ hunkV M' a old new = some N:=by
 obtain ⟨a0,A,B,rfl,hA,rfl⟩:=hunk_some h1
 obtain ⟨b0,C,D,hM,hC,rfl⟩:=hunk_some h2
 have hle : (A ++ new).length ≤ C.length:=by rw [List.length_append]; omega
 obtain ⟨E,hE⟩ : ∃ E,C = (A ++ new) ++ E:=by
  rw [List.append_assoc C] at hM
  rcases List.append_eq_append_iff.mp hM with ⟨u,h3,h4⟩ | ⟨u,h3,h4⟩
  ·exact ⟨u,h3⟩
  ·have:=congrArg List.length h3
   simp only [List.length_append] at this hle
   have hu : u = []:=List.length_eq_zero_iff.mp (by omega)
   exact ⟨[],by rw [h3,hu]; simp⟩
 subst hE
 have hB : B = E ++ (old2 ++ D):=by
  simp only [List.append_assoc] at hM
  have:=List.append_cancel_left hM
  exact List.append_cancel_left this
 subst hB
 refine ⟨A ++ old ++ E ++ new2 ++ D,?_,?_⟩
 ·have:=hunk_of (A ++ old ++ E) old2 D new2
  have hl : ((A ++ old ++ E).length : Int) = b + ((old.length : Int) - (new.length : Int)):=by
   simp only [List.length_append] at hC ⊢
   omega
  rw [hl] at this
  simpa only [List.append_assoc] using this
 ·have:=hunk_of A old (E ++ new2 ++ D) new
  rw [show (A.length : Int) = a by omega] at this
  simpa only [List.append_assoc] using this
theorem hunks_ahead {L M N old new old2 new2 : List ByteArray} {a b : Int} (h1 : hunkV L a old new = some M) (h2 : hunkV M b old2 new2 = some N) (hlt : b < a - (old2.length : Int)) :
  ∃ M',hunkV L b old2 new2 = some M' ∧ hunkV M' (a + ((new2.length : Int) - (old2.length : Int))) old new = some N:=by
 obtain ⟨a0,A,B,rfl,hA,rfl⟩:=hunk_some h1
 obtain ⟨b0,C,D,hM,hC,rfl⟩:=hunk_some h2
 obtain ⟨E,hE⟩ : ∃ E,A = (C ++ old2) ++ E:=by
  rw [List.append_assoc A] at hM
  have hM':=hM
  rcases List.append_eq_append_iff.mp hM' with ⟨u,h3,h4⟩ | ⟨u,h3,h4⟩
  ·have:=congrArg List.length h3
   rw [List.length_append] at this
   have hu : u = []:=List.length_eq_zero_iff.mp (by rw [List.length_append] at this; omega)
   exact ⟨[],by rw [hu] at h3; rw [h3]; simp⟩
  ·exact ⟨u,h3⟩
 subst hE
 have hD : D = E ++ (new ++ B):=by
  simp only [List.append_assoc] at hM
  have:=List.append_cancel_left hM
  exact (List.append_cancel_left this).symm
 subst hD
 refine ⟨C ++ new2 ++ E ++ old ++ B,?_,?_⟩
 ·have:=hunk_of C old2 (E ++ old ++ B) new2
  rw [show (C.length : Int) = b by omega] at this
  simpa only [List.append_assoc] using this
 ·have:=hunk_of (C ++ new2 ++ E) old B new
  have hl : ((C ++ new2 ++ E).length : Int) = a + ((new2.length : Int) - (old2.length : Int)):=by
   simp only [List.length_append] at hA ⊢
   omega
  rw [hl] at this
  simpa only [List.append_assoc] using this
theorem swap_hunks {l : List S41} {p q p' q' : S25} (h7 : p.f0 = 7) (k7 : q.f0 = 7) (he : p.f1 = q.f1) (hq' : primB q' = true) (hp' : primB p' = true)
  (ep : p' = { p with f4:=p'.f4 }) (eq : q' = { q with f4:=q'.f4 })
  (hat : (p.f4 < q.f4 - (p.f6.length : Int) ∧ q'.f4 = q.f4 + ((p.f5.length : Int) - (p.f6.length : Int)) ∧ p'.f4 = p.f4) ∨ (q.f4 < p.f4 - (q.f5.length : Int) ∧ q'.f4 = q.f4 ∧ p'.f4 = p.f4 + ((q.f6.length : Int) - (q.f5.length : Int))))
  (h1 : applyE l p = 0) (h2 : applyE (doL l p) q = 0) : applyE l q' = 0 ∧ applyE (doL l q') p' = 0 ∧ doL (doL l q') p' = doL (doL l p) q:=by
 obtain ⟨ht,hp,hd⟩:=apply_zero.mp h1
 obtain ⟨x,y,hx,hk,hc,e,L⟩:=change_do h1 (by omega) (by omega)
 obtain ⟨x2,y2,hx2,hk2,hc2,e2,L2⟩:=change_do h2 (by omega) (by omega)
 have q0 : q'.f0 = 7:=by rw [eq]; exact k7
 have q1 : q'.f1 = p.f1:=by rw [eq,he]
 have q5 : q'.f5 = q.f5:=by rw [eq]
 have q6 : q'.f6 = q.f6:=by rw [eq]
 have p0 : p'.f0 = 7:=by rw [ep]; exact h7
 have p1 : p'.f1 = p.f1:=by rw [ep]
 have p5 : p'.f5 = p.f5:=by rw [ep]
 have p6 : p'.f6 = p.f6:=by rw [ep]
 rw [L.f,if_pos he.symm] at hx2
 have:=Option.some.inj hx2
 subst this
 unfold changeV at hc hc2
 rw [if_pos h7] at hc
 rw [if_pos k7] at hc2
 obtain ⟨M,hM,rfl⟩:=Option.map_eq_some_iff.mp hc
 obtain ⟨N,hN,rfl⟩:=Option.map_eq_some_iff.mp hc2
 obtain ⟨M',hM',hN'⟩ : ∃ M',hunkV x.f2 q'.f4 q.f5 q.f6 = some M' ∧ hunkV M' p'.f4 p.f5 p.f6 = some N:=by
  rcases hat with ⟨c1,c2,c3⟩ | ⟨c1,c2,c3⟩
  ·rw [c2,c3]; exact hunks_behind hM hN c1
  ·rw [c2,c3]; exact hunks_ahead hM hN c1
 have d1 : changeV x q' = some { x with f2:=M' }:=by
  unfold changeV
  rw [if_pos q0,q5,q6,hM']
  rfl
 have hxq : findV l q'.f1 = some x:=by rw [q1,hx]
 obtain ⟨a1,a2⟩:=change_can ht hq' (by omega) (by omega) hxq (by rw [q0,hk,h7]) d1
 have hxp : findV (doL l q') p'.f1 = some { x with f2:=M' }:=by rw [a2,if_pos (by rw [p1,q1])]
 have d2 : changeV { x with f2:=M' } p' = some { x with f2:=N }:=by
  unfold changeV
  rw [if_pos p0,p5,p6]
  show Option.map _ (hunkV M' p'.f4 p.f5 p.f6) = _
  rw [hN']
  rfl
 obtain ⟨b1,b2⟩:=change_can (apply_tree a1) hp' (by omega) (by omega) hxp (by rw [p0]; show x.f1 = _; rw [hk,h7]) d2
 refine ⟨a1,b1,srt_ext (apply_tree b1).s (apply_tree h2).s fun s => ?_⟩
 rw [b2,a2,L2.f,L.f,p1,q1,← he]
 by_cases u : s = p.f1
 ·rw [if_pos u,if_pos u]
 ·rw [if_neg u,if_neg u,if_neg u,if_neg u]
theorem change_path {x y : S41} {p : S25} (s t : ByteArray) (h : changeV x p = some y) : changeV { x with f0:=s } { p with f1:=t } = some { y with f0:=s }:=by
 unfold changeV at h ⊢
 by_cases h7 : p.f0 = 7
 ·rw [if_pos h7] at h
  show (if p.f0 = 7 then _ else _) = _
  rw [if_pos h7]
  obtain ⟨M,hM,rfl⟩:=Option.map_eq_some_iff.mp h
  show Option.map _ (hunkV x.f2 p.f4 p.f5 p.f6) = _
  rw [hM]; rfl
 ·rw [if_neg h7] at h
  show (if p.f0 = 7 then _ else if p.f0 = 8 then _ else _) = _
  rw [if_neg h7]
  by_cases h8 : p.f0 = 8
  ·rw [if_pos h8] at h ⊢
   obtain ⟨M,hM,rfl⟩:=Option.map_eq_some_iff.mp h
   show Option.map _ (tokV x.f2 p.f3 p.f2) = _
   rw [hM]; rfl
  ·rw [if_neg h8] at h ⊢
   by_cases h3 : x.f3 = p.f3
   ·rw [if_pos h3] at h
    rw [← Option.some.inj h]
    exact if_pos h3
   ·rw [if_neg h3] at h; cases h
def Goes (s fr to_ s' : ByteArray) : Prop:=(withinB s fr = true ∧ s' = mv s fr to_) ∨ (withinB s fr = false ∧ withinB s to_ = false ∧ s' = s)
theorem move_look {l : List S41} {q : S25} (h : applyE l q = 0) (h10 : q.f0 = 10) : (∀ x ∈ l,withinB x.f0 q.f2 = false) ∧ apartB q.f1 q.f2 = true ∧ ∀ t,findV (doL l q) t = if withinB t q.f2 then (findV l (mv t q.f2 q.f1)).bind (fun x => if withinB (mv t q.f2 q.f1) q.f1 then some { x with f0:=t } else none) else if withinB t q.f1 then none else findV l t:=by
 obtain ⟨ht,hp,hd⟩:=apply_zero.mp h
 rw [(doE_move h10).1] at hd
 obtain ⟨_,g1,_,_⟩:=move_zero.mp hd
 refine ⟨ht.none_within g1,(prim_move hp h10).2,fun t => ?_⟩
 rw [(doE_move h10).2]
 exact move_find ht.s (ht.none_within g1) t
theorem goes_find {l : List S41} {q : S25} (h : applyE l q = 0) (h10 : q.f0 = 10) {s s' : ByteArray} (hg : Goes s q.f1 q.f2 s') {x : S41} : findV l s = some x → findV (doL l q) s' = some { x with f0:=s' }:=by
 intro hx
 obtain ⟨m1,m2,m3⟩:=move_look h h10
 rw [m3]
 rcases hg with ⟨g1,rfl⟩ | ⟨g1,g2,rfl⟩
 ·rw [mv_within _ g1,if_pos rfl,mv_back _ g1,hx,Option.bind_some,g1,if_pos rfl]
 ·rw [g2,if_neg (by simp),g1,if_neg (by simp),hx]
  have:=(find_mem hx).2
  rw [← this]
theorem goes_back {l : List S41} {q : S25} (h : applyE l q = 0) (h10 : q.f0 = 10) {s s' : ByteArray} (hg : Goes s q.f1 q.f2 s') {x : S41} : findV (doL l q) s' = some x → findV l s = some { x with f0:=s }:=by
 intro hx
 obtain ⟨m1,m2,m3⟩:=move_look h h10
 rw [m3] at hx
 rcases hg with ⟨g1,rfl⟩ | ⟨g1,g2,rfl⟩
 ·rw [mv_within _ g1,if_pos rfl,mv_back _ g1] at hx
  obtain ⟨z,hz,e⟩:=Option.bind_eq_some_iff.mp hx
  rw [g1,if_pos rfl] at e
  rw [hz,← Option.some.inj e]
  have:=(find_mem hz).2
  rw [← this]
 ·rw [g2,if_neg (by simp),g1,if_neg (by simp)] at hx
  rw [hx]
  have:=(find_mem hx).2
  rw [← this]
theorem swap_change_move {l : List S41} {p q p' : S25} (h7 : 7 ≤ p.f0) (h9 : p.f0 ≤ 9) (h10 : q.f0 = 10) (hp' : primB p' = true) (ep : p' = { p with f1:=p'.f1 }) (hg : Goes p.f1 q.f1 q.f2 p'.f1)
  (h1 : applyE l p = 0) (h2 : applyE (doL l p) q = 0) : applyE l q = 0 ∧ applyE (doL l q) p' = 0 ∧ doL (doL l q) p' = doL (doL l p) q:=by
 obtain ⟨ht,hp,hd⟩:=apply_zero.mp h1
 obtain ⟨_,hq,_⟩:=apply_zero.mp h2
 obtain ⟨x,y,hx,hk,hc,e,L⟩:=change_do h1 h7 h9
 have a1:=like_move L.symm hq h10 h2
 have hx':=goes_find a1 h10 hg hx
 have p0 : p'.f0 = p.f0:=by rw [ep]
 have hc':=change_path p'.f1 p'.f1 hc
 rw [← ep] at hc'
 obtain ⟨b1,b2⟩:=change_can (apply_tree a1) hp' (by omega) (by omega) hx' (by rw [p0]; exact hk) hc'
 refine ⟨a1,b1,srt_ext (apply_tree b1).s (apply_tree h2).s fun s => ?_⟩
 obtain ⟨m1,ap,m3⟩:=move_look a1 h10
 obtain ⟨n1,_,n3⟩:=move_look h2 h10
 have hy : findV (doL l p) p.f1 = some y:=by rw [L.f,if_pos rfl]
 by_cases u : s = p'.f1
 ·rw [b2,if_pos u,u]
  exact (goes_find h2 h10 hg hy).symm
 ·rw [b2,if_neg u,m3,n3]
  cases w2 : withinB s q.f2 with
  | true =>
   rw [if_pos rfl,if_pos rfl,L.f,if_neg]
   intro e'
   rcases hg with ⟨g1,g3⟩ | ⟨g1,g2,g3⟩
   ·rw [← e',mv_back _ w2] at g3; exact u g3.symm
   ·have:=mv_within q.f1 w2
    rw [e',g1] at this; cases this
  | false =>
   cases w1 : withinB s q.f1 with
   | true => simp only [Bool.false_eq_true,if_false,if_true]
   | false =>
    simp only [Bool.false_eq_true,if_false]
    rw [L.f,if_neg]
    intro e'
    rcases hg with ⟨g1,g3⟩ | ⟨g1,g2,g3⟩
    ·rw [← e',w1] at g1; cases g1
    ·rw [g3,← e'] at u; exact u rfl
theorem swap_move_change {l : List S41} {p q q' : S25} (h10 : p.f0 = 10) (h7 : 7 ≤ q.f0) (h9 : q.f0 ≤ 9) (hq' : primB q' = true) (eq : q' = { q with f1:=q'.f1 }) (hg : Goes q'.f1 p.f1 p.f2 q.f1)
  (h1 : applyE l p = 0) (h2 : applyE (doL l p) q = 0) : applyE l q' = 0 ∧ applyE (doL l q') p = 0 ∧ doL (doL l q') p = doL (doL l p) q:=by
 obtain ⟨ht,hp,hd⟩:=apply_zero.mp h1
 obtain ⟨_,hq,_⟩:=apply_zero.mp h2
 obtain ⟨x,y,hx,hk,hc,e,L⟩:=change_do h2 h7 h9
 have hx':=goes_back h1 h10 hg hx
 have q0 : q'.f0 = q.f0:=by rw [eq]
 have hc':=change_path q'.f1 q'.f1 hc
 rw [← eq] at hc'
 obtain ⟨a1,a2⟩:=change_can ht hq' (by omega) (by omega) hx' (by rw [q0]; exact hk) hc'
 obtain ⟨x2,y2,hx2,hk2,hc2,e2,L2⟩:=change_do a1 (by omega) (by omega)
 have b1:=like_move L2 hp h10 h1
 have eq2 : q = { q' with f1:=q.f1 }:=by rw [eq]
 obtain ⟨c1,c2,c3⟩:=swap_change_move (p':=q) (by omega) (by omega) h10 hq eq2 hg a1 b1
 exact ⟨a1,b1,c3.symm⟩
open Go.RowKit Go.Proofs.YthhohbidjhcjeaaGreatDoorW.PrintWords Go.Proofs.YthhohbidjhcjeaaGreatDoorW.PrintLast Go.Proofs.YthhohbidjhcjeaaGreatDoorW.PrintMore
open Go.Proofs.YthhohbidjhcjeaaGreatDoor.Q Go.Proofs.YthhohbidjhcjeaaGreatDoor.Pl
theorem far_of {p q : S25} (h : apartL (pathsS p) (pathsS q) = true) : Far p q:=by
 have mem : ∀ (p : S25) (s : ByteArray),Rg p s → ∃ x ∈ pathsS p,withinB s x = true:=by
  rintro p s (h | ⟨h10,h⟩)
  ·refine ⟨p.f1,?_,h⟩
   unfold pathsS
   split <;> simp
  ·refine ⟨p.f2,?_,h⟩
   unfold pathsS
   rw [if_pos h10]
   simp
 rintro s ⟨hp,hq⟩
 obtain ⟨x,hx,h1⟩:=mem p s hp
 obtain ⟨y,hy,h2⟩:=mem q s hq
 unfold apartL at h
 have ha : apartB x y = true:=List.all_eq_true.1 (List.all_eq_true.1 h x hx) y hy
 obtain ⟨n1,n2⟩:=apart_within ha
 rcases within_line h1 h2 with k | k
 ·rw [n1] at k; cases k
 ·rw [n2] at k; cases k
theorem goes_carry (s fr dst : ByteArray) (h : (carryS s fr dst).2 = true) : Goes s fr dst (carryS s fr dst).1:=by
 cases hw : withinB s fr with
 | true => rw [carry_yes hw]; exact .inl ⟨hw,rfl⟩
 | false =>
  rw [carry_no hw] at h ⊢
  exact .inr ⟨hw,by simpa using h,rfl⟩
theorem carry_goes (s fr dst : ByteArray) (h : (carryS s fr dst).2 = true) : Goes (carryS s fr dst).1 dst fr s:=by
 cases hw : withinB s fr with
 | true => rw [carry_yes hw]; exact .inl ⟨mv_within dst hw,(mv_back dst hw).symm⟩
 | false =>
  rw [carry_no hw] at h ⊢
  exact .inr ⟨by simpa using h,hw,rfl⟩
theorem ne_toList {a b : ByteArray} (h : (a.toList != b.toList) = true) : a ≠ b:=by
 rintro rfl
 simp at h
theorem swap_yes {l : List S41} {p q a b : S25} (hy : Yes p q a b) (sp : Okp p) (sq : Okp q) (h1 : applyE l p = 0) (h2 : applyE (doL l p) q = 0) (hn : isAdd q → l.length ≠ 1024) :
  applyE l a = 0 ∧ applyE (doL l a) b = 0 ∧ doL (doL l a) b = doL (doL l p) q:=by
 obtain ⟨p1,p2⟩:=primB_lo hy.hp
 obtain ⟨q1,q2⟩:=primB_lo hy.hq
 have hr:=hy.r
 unfold ruleS at hr
 by_cases hp10 : p.f0 = 10
 ·rw [if_pos hp10] at hr
  by_cases hq10 : q.f0 = 10
  ·rw [if_pos hq10] at hr
   obtain ⟨rfl,rfl,hf⟩:=prod3 hr
   exact swap_far (far_of hf) h1 h2 hn
  ·rw [if_neg hq10] at hr
   by_cases hq7 : 7 ≤ q.f0
   ·rw [if_pos hq7] at hr
    obtain ⟨rfl,ea,hf⟩:=prod3 hr
    have hg : Goes a.f1 p.f1 p.f2 q.f1:=by
     rw [← ea]
     exact carry_goes q.f1 p.f2 p.f1 hf
    exact swap_move_change hp10 hq7 (by omega) hy.ha (by rw [← ea]) hg h1 h2
   ·rw [if_neg hq7] at hr
    obtain ⟨rfl,rfl,hf⟩:=prod3 hr
    exact swap_far (far_of hf) h1 h2 hn
 ·rw [if_neg hp10] at hr
  by_cases hp7 : 7 ≤ p.f0
  ·rw [if_pos hp7] at hr
   by_cases hq10 : q.f0 = 10
   ·rw [if_pos hq10] at hr
    obtain ⟨eb,rfl,hf⟩:=prod3 hr
    have hg : Goes p.f1 q.f1 q.f2 b.f1:=by
     rw [← eb]
     exact goes_carry p.f1 q.f1 q.f2 hf
    exact swap_change_move hp7 (by omega) hq10 hy.hb (by rw [← eb]) hg h1 h2
   ·rw [if_neg hq10] at hr
    by_cases hq7 : 7 ≤ q.f0
    ·rw [if_pos hq7] at hr
     unfold bothS at hr
     by_cases he : p.f1.toList = q.f1.toList
     ·rw [if_pos he] at hr
      by_cases h77 : p.f0 = 7 ∧ q.f0 = 7
      ·rw [if_pos h77] at hr
       obtain ⟨_,_,a0,a1,_⟩:=prim_seven hy.hp h77.1
       obtain ⟨_,_,t0,t1,_⟩:=prim_seven hy.hq h77.2
       have k5:=sp.ok.1
       have k6:=sp.ok.2
       have j5:=sq.ok.1
       have j6:=sq.ok.2
       rw [wrap_id (i:=q.f4 - (p.f6.length : Int)) (by omega) (by omega),wrap_id (i:=p.f4 - (q.f5.length : Int)) (by omega) (by omega),
        wrap_id (i:=(p.f5.length : Int) - (p.f6.length : Int)) (by omega) (by omega),wrap_id (i:=(q.f6.length : Int) - (q.f5.length : Int)) (by omega) (by omega),
        wrap_id (i:=q.f4 + ((p.f5.length : Int) - (p.f6.length : Int))) (by omega) (by omega),wrap_id (i:=p.f4 + ((q.f6.length : Int) - (q.f5.length : Int))) (by omega) (by omega)] at hr
       have hpe : p.f1 = q.f1:=toList_inj he
       by_cases hb : q.f4 - (p.f6.length : Int) > p.f4
       ·rw [if_pos hb] at hr
        obtain ⟨rfl,ea,_⟩:=prod3 hr
        exact swap_hunks h77.1 h77.2 hpe hy.ha hy.hb rfl (by rw [← ea]) (.inl ⟨by omega,by rw [← ea],rfl⟩) h1 h2
       ·rw [if_neg hb] at hr
        by_cases hb2 : p.f4 - (q.f5.length : Int) > q.f4
        ·rw [if_pos hb2] at hr
         obtain ⟨eb,rfl,_⟩:=prod3 hr
         exact swap_hunks h77.1 h77.2 hpe hy.ha hy.hb (by rw [← eb]) rfl (.inr ⟨by omega,rfl,by rw [← eb]⟩) h1 h2
        ·rw [if_neg hb2] at hr
         cases (prod3 hr).2.2
      ·rw [if_neg h77] at hr
       cases (prod3 hr).2.2
     ·rw [if_neg he] at hr
      obtain ⟨rfl,rfl,_⟩:=prod3 hr
      exact swap_changes hp7 (by omega) hq7 (by omega) (fun e => he (by rw [e])) h1 h2
    ·rw [if_neg hq7] at hr
     obtain ⟨rfl,rfl,hf⟩:=prod3 hr
     exact swap_change_low hp7 (by omega) (by omega) (ne_toList hf) h1 h2
  ·rw [if_neg hp7] at hr
   by_cases hq10 : q.f0 = 10
   ·rw [if_pos hq10] at hr
    obtain ⟨rfl,rfl,hf⟩:=prod3 hr
    exact swap_far (far_of hf) h1 h2 hn
   ·rw [if_neg hq10] at hr
    by_cases hq7 : 7 ≤ q.f0
    ·rw [if_pos hq7] at hr
     obtain ⟨rfl,rfl,hf⟩:=prod3 hr
     exact swap_low_change (by omega) hq7 (by omega) (ne_toList hf) h1 h2
    ·rw [if_neg hq7] at hr
     obtain ⟨rfl,rfl,hf⟩:=prod3 hr
     exact swap_far (far_of hf) h1 h2 hn
theorem swap_full {l : List S41} {p q a b : S25} (hy : Yes p q a b) (h1 : applyE l p = 0) (h2 : applyE (doL l p) q = 0) (hq : isAdd q) (hl : l.length = 1024) : applyE l a = 2:=by
 have e1:=do_len h1
 have ht:=(apply_zero.mp h1).1
 have ht2:=apply_tree h1
 obtain ⟨_,hqp,hd⟩:=apply_zero.mp h2
 have hq0 : ¬ q.f0 = 10 ∧ ¬ 7 ≤ q.f0:=by unfold isAdd at hq; omega
 have hda : doE (doL l p) q = addE (doL l p) q:=by
  unfold doE
  rw [if_neg hq0.1,if_neg hq0.2,if_pos (show q.f0 = 1 ∨ q.f0 = 3 ∨ q.f0 = 5 from hq)]
 rw [hda] at hd
 obtain ⟨f1,f2,f3⟩:=add_zero.mp hd
 have hlow : ¬ p.f0 = 10 ∧ ¬ 7 ≤ p.f0:=by
  have:=ht2.n
  unfold dLen at e1
  split at e1
  ·omega
  ·split at e1 <;> omega
 have hr:=hy.r
 unfold ruleS at hr
 rw [if_neg hlow.1,if_neg hlow.2,if_neg hq0.1,if_neg hq0.2] at hr
 obtain ⟨rfl,rfl,hf⟩:=prod3 hr
 have hfar:=far_of hf
 have hte : tgt q = q.f1:=by unfold tgt; rw [if_neg hq0.1]
 have hup:=(far_up h1 hfar (rg_tgt q)).mp (by rw [hte]; exact f2)
 rw [hte] at hup
 have hfi : findV l q.f1 = none:=by
  rw [← do_else h1 (s:=q.f1) (fun k => hfar q.f1 ⟨k,.inl (within_refl _)⟩)]
  exact f1
 unfold applyE
 rw [if_pos (by rw [tree_iff.2 ht,hqp]; rfl)]
 unfold doE
 rw [if_neg hq0.1,if_neg hq0.2,if_pos (show q.f0 = 1 ∨ q.f0 = 3 ∨ q.f0 = 5 from hq)]
 unfold addE
 rw [if_pos (room_zero.2 ⟨hfi,hup⟩),if_pos hl]
theorem do_len_le {l : List S41} {p : S25} (h : applyE l p = 0) : (doL l p).length ≤ l.length + 1:=by
 have:=do_len h
 unfold dLen at this
 split at this
 ·omega
 ·split at this <;> omega
theorem past_runs : ∀ (ps : List S25) (p : S25) (l k : List S41) (ds : List S25) (b : S25) (i : Nat),pastS p ps = some (ds,b) → (∀ x ∈ ps,Okp x) → Okp p → runV l (p :: ps) = some k →
  runV l (ds ++ [b]) = some k ∨ (∃ j,allV l (ds ++ [b]) i = ([],2,j)) ∧ 1024 ≤ l.length + (ps.length + 1)
 | [],p,l,k,ds,b,i,hs,ho,hp,h => by
  have hs' : some (([] : List S25),p) = some (ds,b):=hs
  cases hs'
  exact .inl h
 | q :: qs,p,l,k,ds,b,i,hs,ho,hp,h => by
  have hq:=ho q (List.mem_cons_self ..)
  have h' : (if applyE l p = 0 then (if applyE (doL l p) q = 0 then runV (doL (doL l p) q) qs else none) else none) = some k:=h
  split at h'
  ·rename_i h1
   split at h'
   ·rename_i h2
    rcases comm_or p q with e | ⟨x,y,hy,e⟩
    ·unfold pastS at hs
     rw [e] at hs
     cases hs
    ·unfold pastS at hs
     rw [e] at hs
     obtain ⟨⟨ds',b'⟩,hs',hz⟩:=Option.map_eq_some_iff.mp (show (pastS y qs).map (fun z => (x :: z.1,z.2)) = some (ds,b) from hs)
     simp only [Prod.mk.injEq] at hz
     obtain ⟨rfl,rfl⟩:=hz
     by_cases hn : isAdd q ∧ l.length = 1024
     ·refine .inr ⟨⟨i,?_⟩,by omega⟩
      have h2':=swap_full hy h1 h2 hn.1 hn.2
      show (if applyE l x = 0 then _ else ([],applyE l x,i)) = _
      rw [h2',if_neg (by decide)]
     ·obtain ⟨r1,r2,r3⟩:=swap_yes hy hp hq h1 h2 (fun h e => hn ⟨h,e⟩)
      have hrun : runV (doL l x) (y :: qs) = some k:=by
       show (if applyE (doL l x) y = 0 then runV (doL (doL l x) y) qs else none) = some k
       rw [if_pos r2,r3]
       exact h'
      rcases past_runs qs y (doL l x) k ds' b' (i + 1) hs' (fun z hz => ho z (List.mem_cons_of_mem _ hz)) (okp_yes hy hp hq).2 hrun with g | ⟨⟨j,g⟩,g2⟩
      ·refine .inl ?_
       show (if applyE l x = 0 then runV (doL l x) (ds' ++ [b']) else none) = some k
       rw [if_pos r1,g]
      ·refine .inr ⟨⟨j,?_⟩,?_⟩
       ·show (if applyE l x = 0 then allV (doL l x) (ds' ++ [b']) (i + 1) else _) = _
        rw [if_pos r1,g]
       ·have:=do_len_le r1
        rw [List.length_cons]
        omega
   ·cases h'
  ·cases h'
theorem past_cons {p x : S25} {l ds : List S25} {b : S25} (h : pastS p (x :: l) = some (ds,b)) : ∃ a q es,Yes p x a q ∧ pastS q l = some (es,b) ∧ ds = a :: es:=by
 rcases comm_or p x with e | ⟨a,q,hy,e⟩
 ·unfold pastS at h
  rw [e] at h
  cases h
 ·unfold pastS at h
  rw [e] at h
  obtain ⟨⟨es,b'⟩,h1,hz⟩:=Option.map_eq_some_iff.mp (show (pastS q l).map (fun z => (a :: z.1,z.2)) = some (ds,b) from h)
  simp only [Prod.mk.injEq] at hz
  obtain ⟨rfl,rfl⟩:=hz
  exact ⟨a,q,es,hy,h1,rfl⟩
theorem past_of {p x a q : S25} {l es : List S25} {b : S25} (hy : Yes p x a q) (h : pastS q l = some (es,b)) : pastS p (x :: l) = some (a :: es,b):=by
 unfold pastS
 rw [comm_of hy]
 show (pastS q l).map _ = _
 rw [h]
 rfl
theorem past_len : ∀ {l : List S25} {p : S25} {ds : List S25} {b : S25},pastS p l = some (ds,b) → ds.length = l.length
 | [],p,ds,b,h => by cases (show some (([] : List S25),p) = some (ds,b) from h); rfl
 | x :: l,p,ds,b,h => by
  obtain ⟨a,q,es,_,h1,rfl⟩:=past_cons h
  rw [List.length_cons,List.length_cons,past_len h1]
theorem past_okp : ∀ {l : List S25} {p : S25} {ds : List S25} {b : S25},pastS p l = some (ds,b) → (∀ x ∈ l,Okp x) → Okp p → (∀ x ∈ ds,Okp x) ∧ Okp b
 | [],p,ds,b,h,hl,hp => by cases (show some (([] : List S25),p) = some (ds,b) from h); exact ⟨fun x hx => absurd hx (List.not_mem_nil),hp⟩
 | x :: l,p,ds,b,h,hl,hp => by
  obtain ⟨a,q,es,hy,h1,rfl⟩:=past_cons h
  obtain ⟨ha,hq⟩:=okp_yes hy hp (hl x (List.mem_cons_self))
  obtain ⟨g1,g2⟩:=past_okp h1 (fun z hz => hl z (List.mem_cons_of_mem _ hz)) hq
  refine ⟨fun z hz => ?_,g2⟩
  rcases List.mem_cons.1 hz with rfl | hz
  ·exact ha
  ·exact g1 z hz
theorem swap_cons {p : S25} {a b x y : List S25} (h : swapS (p :: a) b = some (x,y)) : ∃ c d q,swapS a b = some (c,d) ∧ pastS p c = some (x,q) ∧ y = q :: d:=by
 obtain ⟨⟨c,d⟩,h1,h2⟩:=Option.bind_eq_some_iff.mp (show (swapS a b).bind (fun z => (pastS p z.1).map fun y => (y.1,y.2 :: z.2)) = some (x,y) from h)
 obtain ⟨⟨u,q⟩,h3,h4⟩:=Option.map_eq_some_iff.mp h2
 simp only [Prod.mk.injEq] at h4
 obtain ⟨rfl,rfl⟩:=h4
 exact ⟨c,d,q,h1,h3,rfl⟩
theorem swap_of {p q : S25} {a b c d x : List S25} (h1 : swapS a b = some (c,d)) (h2 : pastS p c = some (x,q)) : swapS (p :: a) b = some (x,q :: d):=by
 show (swapS a b).bind (fun z => (pastS p z.1).map fun y => (y.1,y.2 :: z.2)) = _
 rw [h1,Option.bind_some]
 show (pastS p c).map _ = _
 rw [h2]
 rfl
theorem swap_len : ∀ {a b x y : List S25},swapS a b = some (x,y) → x.length = b.length ∧ y.length = a.length
 | [],b,x,y,h => by cases (show some (b,([] : List S25)) = some (x,y) from h); exact ⟨rfl,rfl⟩
 | p :: a,b,x,y,h => by
  obtain ⟨c,d,q,h1,h2,rfl⟩:=swap_cons h
  obtain ⟨g1,g2⟩:=swap_len h1
  exact ⟨(past_len h2).trans g1,by rw [List.length_cons,List.length_cons,g2]⟩
theorem swap_okp : ∀ {a b x y : List S25},swapS a b = some (x,y) → (∀ z ∈ a,Okp z) → (∀ z ∈ b,Okp z) → (∀ z ∈ x,Okp z) ∧ (∀ z ∈ y,Okp z)
 | [],b,x,y,h,_,hb => by cases (show some (b,([] : List S25)) = some (x,y) from h); exact ⟨hb,fun z hz => absurd hz (List.not_mem_nil)⟩
 | p :: a,b,x,y,h,ha,hb => by
  obtain ⟨c,d,q,h1,h2,rfl⟩:=swap_cons h
  obtain ⟨g1,g2⟩:=swap_okp h1 (fun z hz => ha z (List.mem_cons_of_mem _ hz)) hb
  obtain ⟨g3,g4⟩:=past_okp h2 g1 (ha p (List.mem_cons_self))
  refine ⟨g3,fun z hz => ?_⟩
  rcases List.mem_cons.1 hz with rfl | hz
  ·exact g4
  ·exact g2 z hz
theorem swap_parts (b c : List S25) : ∀ {a x1 y1 x2 y2 : List S25},swapS a b = some (x1,y1) → swapS y1 c = some (x2,y2) → swapS a (b ++ c) = some (x1 ++ x2,y2)
 | [],x1,y1,x2,y2,h1,h2 => by
  cases (show some (b,([] : List S25)) = some (x1,y1) from h1)
  cases (show some (c,([] : List S25)) = some (x2,y2) from h2)
  rfl
 | p :: a,x1,y1,x2,y2,h1,h2 => by
  obtain ⟨u,d,q,g1,g2,rfl⟩:=swap_cons h1
  obtain ⟨v,e,r,g3,g4,rfl⟩:=swap_cons h2
  refine swap_of (swap_parts b c g1 g3) ?_
  rw [pastS_append,g2,Option.bind_some]
  show (pastS q v).map _ = _
  rw [g4]
  rfl
theorem past_back : ∀ {l : List S25} {p : S25} {ds : List S25} {q : S25},pastS p l = some (ds,q) → (∀ x ∈ l,Okp x) → Okp p → swapS ds [q] = some ([p],l)
 | [],p,ds,q,h,_,_ => by cases (show some (([] : List S25),p) = some (ds,q) from h); rfl
 | x :: l,p,ds,q,h,hl,hp => by
  obtain ⟨a,b,es,hy,h1,rfl⟩:=past_cons h
  have hx:=hl x (List.mem_cons_self)
  have ih:=past_back h1 (fun z hz => hl z (List.mem_cons_of_mem _ hz)) (okp_yes hy hp hx).2
  exact swap_of ih (past_of (yes_back hp.ok hx.ok hy) (pastS_nil _))
theorem swap_back : ∀ {a b x y : List S25},swapS a b = some (x,y) → (∀ z ∈ a,Okp z) → (∀ z ∈ b,Okp z) → swapS x y = some (a,b)
 | [],b,x,y,h,_,_ => by cases (show some (b,([] : List S25)) = some (x,y) from h); exact swap_nil b
 | p :: a,b,x,y,h,ha,hb => by
  obtain ⟨c,d,q,h1,h2,rfl⟩:=swap_cons h
  have hc:=(swap_okp h1 (fun z hz => ha z (List.mem_cons_of_mem _ hz)) hb).1
  exact swap_parts [q] d (past_back h2 hc (ha p (List.mem_cons_self))) (swap_back h1 (fun z hz => ha z (List.mem_cons_of_mem _ hz)) hb)
theorem run_cons {l k : List S41} {p : S25} {ps : List S25} (h : runV l (p :: ps) = some k) : applyE l p = 0 ∧ runV (doL l p) ps = some k:=by
 have h' : (if applyE l p = 0 then runV (doL l p) ps else none) = some k:=h
 split at h'
 ·rename_i h0
  exact ⟨h0,h'⟩
 ·cases h'
theorem run_of {l k : List S41} {p : S25} {ps : List S25} (h0 : applyE l p = 0) (h : runV (doL l p) ps = some k) : runV l (p :: ps) = some k:=by
 show (if applyE l p = 0 then runV (doL l p) ps else none) = some k
 rw [if_pos h0,h]
theorem run_cut {a b : List S25} {l k : List S41} (h : runV l (a ++ b) = some k) : ∃ m,runV l a = some m ∧ runV m b = some k:=by
 rw [run_append] at h
 exact Option.bind_eq_some_iff.mp h
theorem run_put {a b : List S25} {l m k : List S41} (h1 : runV l a = some m) (h2 : runV m b = some k) : runV l (a ++ b) = some k:=by rw [run_append,h1,Option.bind_some,h2]
theorem run_len : ∀ {ps : List S25} {l k : List S41},runV l ps = some k → k.length ≤ l.length + ps.length
 | [],l,k,h => by rw [← Option.some.inj h]; exact Nat.le_add_right ..
 | p :: ps,l,k,h => by
  obtain ⟨h0,h1⟩:=run_cons h
  have:=do_len_le h0
  have:=run_len h1
  rw [List.length_cons]
  omega
theorem past_run {ps : List S25} {p : S25} {l k : List S41} {ds : List S25} {b : S25} (hs : pastS p ps = some (ds,b)) (ho : ∀ x ∈ ps,Okp x) (hp : Okp p) (hn : l.length + (ps.length + 1) < 1024) (h : runV l (p :: ps) = some k) : runV l (ds ++ [b]) = some k:=by
 rcases past_runs ps p l k ds b 0 hs ho hp h with g | ⟨_,g⟩
 ·exact g
 ·omega
theorem swap_run : ∀ {a b x y : List S25} {l k : List S41},swapS a b = some (x,y) → (∀ z ∈ a,Okp z) → (∀ z ∈ b,Okp z) → l.length + (a.length + b.length) < 1024 → runV l (a ++ b) = some k → runV l (x ++ y) = some k
 | [],b,x,y,l,k,h,_,_,_,hr => by cases (show some (b,([] : List S25)) = some (x,y) from h); rw [List.append_nil]; exact hr
 | p :: a,b,x,y,l,k,h,ha,hb,hn,hr => by
  obtain ⟨c,d,q,h1,h2,rfl⟩:=swap_cons h
  have ha' : ∀ z ∈ a,Okp z:=fun z hz => ha z (List.mem_cons_of_mem _ hz)
  have hc:=(swap_okp h1 ha' hb).1
  have hlen:=(swap_len h1).1
  rw [List.length_cons] at hn
  obtain ⟨h0,hr2⟩:=run_cons (show runV l (p :: (a ++ b)) = some k from hr)
  have hle:=do_len_le h0
  have ih:=swap_run h1 ha' hb (by omega) hr2
  obtain ⟨m,m1,m2⟩:=run_cut ih
  have g:=past_run h2 hc (ha p (List.mem_cons_self)) (by omega) (run_of h0 m1)
  rw [show x ++ q :: d = (x ++ [q]) ++ d by simp]
  exact run_put g m2
theorem last_run {a rest : List S25} {q : S25} {i : Nat} {l k : List S41} (hi : i < a.length) (h : pastS a[i] (a.drop (i + 1)) = some (rest,q)) (ho : ∀ x ∈ a,Okp x) (hn : l.length + a.length < 1024) (hr : runV l a = some k) :
  runV l (a.take i ++ (rest ++ [q])) = some k:=by
 have e : a = a.take i ++ (a[i] :: a.drop (i + 1)):=by rw [← List.drop_eq_getElem_cons hi,List.take_append_drop]
 have hr' : runV l (a.take i ++ (a[i] :: a.drop (i + 1))) = some k:=by rw [← e]; exact hr
 obtain ⟨m,m1,m2⟩:=run_cut hr'
 have hm:=run_len m1
 have ht : (a.take i).length = i:=by rw [List.length_take]; omega
 have hd : (a.drop (i + 1)).length = a.length - (i + 1):=List.length_drop
 exact run_put m1 (past_run h (fun z hz => ho z (List.mem_of_mem_drop hz)) (ho _ (List.getElem_mem hi)) (by omega) m2)
theorem set_set {l : List S41} (h : Srt l) {q : ByteArray} {x y z : S41} (hx : findV l q = some x) (hy : y.f0 = q) (hz : z.f0 = q) : setL (setL l q y) q z = setL l q z:=by
 have h1:=set_srt h hx hy
 have f1 : findV (setL l q y) q = some y:=by rw [set_find h hx hy,if_pos rfl]
 refine srt_ext (set_srt h1 f1 hz) (set_srt h hx hz) (fun s => ?_)
 rw [set_find h1 f1 hz,set_find h hx hz,set_find h hx hy]
 split
 ·rfl
 ·rfl
theorem hunk_join {l k m old new n2 : List ByteArray} {a : Int} (h1 : hunkV l a old new = some k) (h2 : hunkV k a new n2 = some m) : hunkV l a old n2 = some m:=by
 obtain ⟨a0,x,y,e1,e2,e3⟩:=hunk_some h1
 obtain ⟨_,x',y',e4,e5,e6⟩:=hunk_some h2
 have hxy : x = x' ∧ y = y':=by
  rw [e3,List.append_assoc,List.append_assoc] at e4
  obtain ⟨g1,g2⟩:=List.append_inj e4 (by rw [e2,e5])
  exact ⟨g1,List.append_cancel_left g2⟩
 obtain ⟨rfl,rfl⟩:=hxy
 rw [e1,e6,show a = (x.length : Int) by omega]
 exact hunk_of x old y n2
theorem mvX_mvX {x : S41} {A B C : ByteArray} (hB : withinB x.f0 B = false) : mvX B C (mvX A B x) = mvX A C x:=by
 unfold mvX
 congr 1
 show mvP (mvP x.f0 A B) B C = mvP x.f0 A C
 cases hA : withinB x.f0 A with
 | false => rw [mvP_out _ hA,mvP_out _ hA,mvP_out _ hB]
 | true =>
  rw [mvP_in _ hA,mvP_in _ hA,mvP_in _ (mv_within B hA)]
  obtain ⟨r,hr,_⟩:=(within_iff _ _).1 hA
  have e1:=mv_data B hr
  apply bytes_inj
  rw [mv_data C e1,mv_data C hr]
theorem join_bytes {l : List S41} {p q : S25} (h1 : applyE l p = 0) (h2 : applyE (doL l p) q = 0) (k9 : p.f0 = 9) (kq : q.f0 = 9) (e1 : p.f1 = q.f1) (e3 : q.f3 = p.f2) (hx : primB { p with f2:=q.f2 } = true) :
  applyE l { p with f2:=q.f2 } = 0 ∧ doL l { p with f2:=q.f2 } = doL (doL l p) q:=by
 obtain ⟨ht,hp,d1⟩:=apply_zero.mp h1
 obtain ⟨ht2,hq,d2⟩:=apply_zero.mp h2
 obtain ⟨c1,c2⟩:=doE_change (l:=l) (p:=p) (by omega) (by omega)
 obtain ⟨c3,c4⟩:=doE_change (l:=doL l p) (p:=q) (by omega) (by omega)
 obtain ⟨c5,c6⟩:=doE_change (l:=l) (p:={ p with f2:=q.f2 }) (show 7 ≤ p.f0 by omega) (show p.f0 ≤ 9 by omega)
 rw [c1] at d1
 rw [c3] at d2
 rw [c4,c6,apply_zero,c5]
 rw [c2] at d2 ht2 ⊢
 obtain ⟨x,y,f1,k1,g1⟩:=change_zero.mp d1
 have hxf:=(find_mem f1).2
 have cv : ∀ (x : S41) (p : S25),p.f0 = 9 → changeV x p = if x.f3 = p.f3 then some { x with f3:=p.f2 } else none:=fun x p h => by unfold changeV; rw [if_neg (by omega),if_neg (by omega)]
 have ey : x.f3 = p.f3 ∧ y = { x with f3:=p.f2 }:=by
  rw [cv x p k9] at g1
  split at g1
  ·rename_i e; exact ⟨e,(Option.some.inj g1).symm⟩
  ·cases g1
 obtain ⟨hx3,rfl⟩:=ey
 rw [change_L f1 g1] at d2 ht2 ⊢
 have fy : findV (setL l p.f1 { x with f3:=p.f2 }) q.f1 = some { x with f3:=p.f2 }:=by rw [← e1,set_find (y:={ x with f3:=p.f2 }) ht.s f1 hxf,if_pos rfl]
 have g2 : changeV { x with f3:=p.f2 } q = some { x with f3:=q.f2 }:=by rw [cv _ q kq,if_pos e3.symm]
 have g3 : changeV x { p with f2:=q.f2 } = some { x with f3:=q.f2 }:=by rw [cv x { p with f2:=q.f2 } k9,if_pos hx3]
 rw [change_L fy g2,change_L (p:={ p with f2:=q.f2 }) f1 g3]
 refine ⟨⟨ht,hx,change_zero.mpr ⟨x,_,f1,k1,g3⟩⟩,?_⟩
 rw [← e1]
 exact (set_set (y:={ x with f3:=p.f2 }) (z:={ x with f3:=q.f2 }) ht.s f1 hxf hxf).symm
theorem join_lines {l : List S41} {p q : S25} (h1 : applyE l p = 0) (h2 : applyE (doL l p) q = 0) (k7 : p.f0 = 7) (kq : q.f0 = 7) (e1 : p.f1 = q.f1) (e4 : p.f4 = q.f4) (e6 : p.f6 = q.f5) (hx : primB { p with f6:=q.f6 } = true) :
  applyE l { p with f6:=q.f6 } = 0 ∧ doL l { p with f6:=q.f6 } = doL (doL l p) q:=by
 obtain ⟨ht,hp,d1⟩:=apply_zero.mp h1
 obtain ⟨ht2,hq,d2⟩:=apply_zero.mp h2
 obtain ⟨c1,c2⟩:=doE_change (l:=l) (p:=p) (by omega) (by omega)
 obtain ⟨c3,c4⟩:=doE_change (l:=doL l p) (p:=q) (by omega) (by omega)
 obtain ⟨c5,c6⟩:=doE_change (l:=l) (p:={ p with f6:=q.f6 }) (show 7 ≤ p.f0 by omega) (show p.f0 ≤ 9 by omega)
 rw [c1] at d1
 rw [c3] at d2
 rw [c4,c6,apply_zero,c5]
 rw [c2] at d2 ht2 ⊢
 obtain ⟨x,y,f1,k1,g1⟩:=change_zero.mp d1
 have hxf:=(find_mem f1).2
 have cv : ∀ (x : S41) (p : S25),p.f0 = 7 → changeV x p = (hunkV x.f2 p.f4 p.f5 p.f6).map (fun l => { x with f2:=l }):=fun x p h => by unfold changeV; rw [if_pos h]
 have g1':=g1
 rw [cv x p k7] at g1'
 obtain ⟨m1,hm1,rfl⟩:=Option.map_eq_some_iff.mp g1'
 rw [change_L f1 g1] at d2 ht2 ⊢
 have fy : findV (setL l p.f1 { x with f2:=m1 }) q.f1 = some { x with f2:=m1 }:=by rw [← e1,set_find (y:={ x with f2:=m1 }) ht.s f1 hxf,if_pos rfl]
 obtain ⟨y,z,f2,k2,g2⟩:=change_zero.mp d2
 rw [fy] at f2
 cases f2
 have g2':=g2
 rw [cv _ q kq] at g2'
 obtain ⟨m2,hm2,rfl⟩:=Option.map_eq_some_iff.mp g2'
 have hj : hunkV x.f2 p.f4 p.f5 q.f6 = some m2:=hunk_join hm1 (by rw [e4,e6]; exact hm2)
 have g3 : changeV x { p with f6:=q.f6 } = some { x with f2:=m2 }:=by
  rw [cv x { p with f6:=q.f6 } k7]
  show (hunkV x.f2 p.f4 p.f5 q.f6).map _ = _
  rw [hj]
  rfl
 rw [change_L fy g2,change_L (p:={ p with f6:=q.f6 }) f1 g3]
 refine ⟨⟨ht,hx,change_zero.mpr ⟨x,_,f1,k1,g3⟩⟩,?_⟩
 rw [← e1]
 exact (set_set (y:={ x with f2:=m1 }) (z:={ x with f2:=m2 }) ht.s f1 hxf hxf).symm
theorem join_moves {l : List S41} {p q : S25} (h1 : applyE l p = 0) (h2 : applyE (doL l p) q = 0) (k10 : p.f0 = 10) (kq : q.f0 = 10) (e1 : q.f1 = p.f2) (ha : apartB p.f1 q.f2 = true) (hx : primB { p with f2:=q.f2 } = true) :
  applyE l { p with f2:=q.f2 } = 0 ∧ doL l { p with f2:=q.f2 } = doL (doL l p) q:=by
 obtain ⟨ht,hp,d1⟩:=apply_zero.mp h1
 obtain ⟨ht2,hq,d2⟩:=apply_zero.mp h2
 obtain ⟨c1,c2⟩:=doE_move (l:=l) (p:=p) k10
 obtain ⟨c3,c4⟩:=doE_move (l:=doL l p) (p:=q) kq
 obtain ⟨c5,c6⟩:=doE_move (l:=l) (p:={ p with f2:=q.f2 }) k10
 rw [c1] at d1
 rw [c3] at d2
 rw [c4,c6,apply_zero,c5]
 rw [c2] at d2 ht2 ⊢
 obtain ⟨⟨x0,f1⟩,n1,u1,r1⟩:=move_zero.mp d1
 obtain ⟨⟨x1,f2⟩,n2,u2,r2⟩:=move_zero.mp d2
 rw [e1] at f2 r2
 obtain ⟨w1,w2⟩:=apart_within (prim_move hp k10).2
 have hap:=(prim_move hq kq).2
 rw [e1] at hap
 obtain ⟨w3,w4⟩:=apart_within hap
 obtain ⟨w5,w6⟩:=apart_within ha
 have hnB:=ht.none_within n1
 have hf:=move_find ht.s (fr:=p.f1) hnB
 have hkeep : ∀ s,withinB s p.f2 = false → withinB s p.f1 = false → findV (moveL l p) s = findV l s:=fun s a b => by
  unfold moveL
  rw [hf s,a,b,if_neg (by decide),if_neg (by decide)]
 have nC : findV l q.f2 = none:=by rw [← hkeep q.f2 w4 w6]; exact n2
 have uC : Up l q.f2:=fun u hu => by
  obtain ⟨y,hy,hk⟩:=u2 u hu
  have hw:=parent_within hu
  rw [hkeep u (by
   cases k : withinB u p.f2 with
   | false => rfl
   | true => rw [within_trans hw k] at w4; cases w4) (by
   cases k : withinB u p.f1 with
   | false => rfl
   | true => rw [within_trans hw k] at w6; cases w6)] at hy
  exact ⟨y,hy,hk⟩
 have hmem : ∀ z,z ∈ moveL l p ↔ ∃ x ∈ l,mvX p.f1 p.f2 x = z:=fun z => by
  unfold moveL
  rw [sort_mem,List.mem_map]
 have hnC:=ht.none_within nC
 have hnC2:=ht2.none_within n2
 refine ⟨⟨ht,hx,move_zero.mpr ⟨⟨x0,f1⟩,nC,uC,fun x hx => ?_⟩⟩,?_⟩
 ·have h3:=r2 _ ((hmem _).2 ⟨x,hx,rfl⟩)
  have h4:=congrArg S41.f0 (mvX_mvX (A:=p.f1) (C:=q.f2) (hnB x hx))
  show rightB (mvP x.f0 p.f1 q.f2) = true
  rw [show mvP x.f0 p.f1 q.f2 = mvP (mvX p.f1 p.f2 x).f0 p.f2 q.f2 from h4.symm]
  exact h3
 ·show sortV (l.map (mvX p.f1 q.f2)) = sortV ((moveL l p).map (mvX q.f1 q.f2))
  have hd2 : Dis ((moveL l p).map (mvX q.f1 q.f2)):=move_dis ht2.s hnC2
  refine srt_mem_ext (sort_srt (move_dis ht.s hnC)) (sort_srt hd2) (fun z => ?_)
  rw [sort_mem,sort_mem,List.mem_map,List.mem_map,e1]
  constructor
  ·rintro ⟨x,hx,rfl⟩
   exact ⟨_,(hmem _).2 ⟨x,hx,rfl⟩,mvX_mvX (hnB x hx)⟩
  ·rintro ⟨y,hy,rfl⟩
   obtain ⟨x,hx,rfl⟩:=(hmem _).1 hy
   exact ⟨x,hx,(mvX_mvX (hnB x hx)).symm⟩
theorem join_run {l k : List S41} {p q x : S25} (hj : joinS p q = some (some x)) (h : runV l [p,q] = some k) : runV l [x] = some k:=by
 obtain ⟨h1,h⟩:=run_cons h
 obtain ⟨h2,h⟩:=run_cons h
 cases (show some (doL (doL l p) q) = some k from h)
 have hx:=join_right hj
 unfold joinS at hj
 split at hj
 ·split at hj
  ·cases hj
  ·split at hj
   ·rename_i h9
    cases hj
    obtain ⟨e0,e1⟩:=here_of h9.1
    obtain ⟨g1,g2⟩:=join_bytes h1 h2 h9.2.1 (e0.symm.trans h9.2.1) e1 (toList_inj h9.2.2) hx
    rw [← g2]
    exact run_of g1 rfl
   ·split at hj
    ·rename_i h7
     cases hj
     obtain ⟨e0,e1⟩:=here_of h7.1
     obtain ⟨g1,g2⟩:=join_lines h1 h2 h7.2.1 (e0.symm.trans h7.2.1) e1 h7.2.2.1 ((eqL_iff _ _).1 h7.2.2.2) hx
     rw [← g2]
     exact run_of g1 rfl
    ·split at hj
     ·rename_i h10
      cases hj
      obtain ⟨g1,g2⟩:=join_moves h1 h2 h10.1 h10.2.1 (toList_inj h10.2.2.1) h10.2.2.2 hx
      rw [← g2]
      exact run_of g1 rfl
     ·cases hj
 ·cases hj
theorem join_none {l k : List S41} {p q : S25} (hj : joinS p q = some none) (h : runV l [p,q] = some k) : k = l:=by
 obtain ⟨h1,h⟩:=run_cons h
 obtain ⟨h2,h⟩:=run_cons h
 cases (show some (doL (doL l p) q) = some k from h)
 unfold joinS at hj
 split at hj
 ·split at hj
  ·rename_i he
   rw [← (eqS_iff _ _).1 he]
   exact (undo h1).2
  ·split at hj
   ·cases hj
   ·split at hj
    ·cases hj
    ·split at hj <;> cases hj
 ·cases hj
theorem put_run : ∀ (s : List S25) (p : S25) (l k : List S41),runV l (s.reverse ++ [p]) = some k → runV l (putS s p).reverse = some k
 | [],p,l,k,h => h
 | t :: r,p,l,k,h => by
  unfold putS
  rw [List.reverse_cons,List.append_assoc] at h
  obtain ⟨m,m1,m2⟩:=run_cut h
  split
  ·rw [List.reverse_cons,List.reverse_cons,List.append_assoc]
   exact h
  ·rename_i hj
   rw [join_none hj m2]
   exact m1
  ·rename_i x hj
   exact put_run r x l k (run_put m1 (join_run hj m2))
theorem stack_run : ∀ (a s : List S25) (l k : List S41),runV l (s.reverse ++ a) = some k → runV l (stackS s a).reverse = some k
 | [],s,l,k,h => by rw [List.append_nil] at h; exact h
 | p :: a,s,l,k,h => by
  rw [show s.reverse ++ p :: a = (s.reverse ++ [p]) ++ a by simp] at h
  obtain ⟨m,m1,m2⟩:=run_cut h
  exact stack_run a (putS s p) l k (run_put (put_run s p l m m1) m2)
theorem coal_run {a : List S25} {l k : List S41} (h : runV l a = some k) : runV l (coalS a) = some k:=stack_run a [] l k h
theorem put_len : ∀ (s : List S25) (p : S25),(putS s p).length ≤ s.length + 1
 | [],p => Nat.le_refl _
 | t :: r,p => by
  unfold putS
  split
  ·exact Nat.le_refl _
  ·rw [List.length_cons]; omega
  ·rename_i x _
   have:=put_len r x
   rw [List.length_cons]
   omega
theorem stack_len : ∀ (a s : List S25),(stackS s a).length ≤ s.length + a.length
 | [],s => Nat.le_refl _
 | p :: a,s => by
  have h1:=stack_len a (putS s p)
  have h2:=put_len s p
  rw [List.length_cons]
  exact Nat.le_trans h1 (by omega)
theorem coal_len (a : List S25) : (coalS a).length ≤ a.length:=by
 unfold coalS
 rw [List.length_reverse]
 have:=stack_len a []
 rwa [List.length_nil,Nat.zero_add] at this
def Red : List S25 → Prop
 | [] => True
 | [t] => True
 | t :: u :: r => joinS u t = none ∧ Red (u :: r)
theorem red_tail {t : S25} {r : List S25} (h : Red (t :: r)) : Red r:=by
 cases r with
 | nil => trivial
 | cons u r => exact h.2
theorem red_put : ∀ (s : List S25) (p : S25),Red s → Red (putS s p)
 | [],p,_ => trivial
 | t :: r,p,hs => by
  unfold putS
  split
  ·rename_i hj
   exact ⟨hj,hs⟩
  ·exact red_tail hs
  ·rename_i x hj
   exact red_put r x (red_tail hs)
theorem red_stack : ∀ (l s : List S25),Red s → Red (stackS s l)
 | [],_,hs => hs
 | p :: l,s,hs => red_stack l (putS s p) (red_put s p hs)
theorem red_self : ∀ s : List S25,Red s → stackS [] s.reverse = s
 | [],_ => rfl
 | [t],_ => rfl
 | t :: u :: r,h => by
  have ih:=red_self (u :: r) h.2
  unfold stackS at ih ⊢
  rw [List.reverse_cons,List.foldl_append,ih]
  show putS (u :: r) t = _
  unfold putS
  rw [h.1]
theorem coal_coal (a : List S25) : coalS (coalS a) = coalS a:=by
 show (stackS [] (stackS [] a).reverse).reverse = (stackS [] a).reverse
 rw [red_self _ (red_stack a [] trivial)]
open Go.RowKit Go.Shelf Go.Proofs.YthhohbidjhcjeaaGreatDoorW.PrintWords Go.Proofs.YthhohbidjhcjeaaGreatDoorW.PrintLast Go.Proofs.YthhohbidjhcjeaaGreatDoorW.PrintMore
structure Lr (s : ByteArray) : Prop where
 n : (runs s.data.toList).length ≤ 4000
 r : ∀ r ∈ runs s.data.toList,r.length ≤ 4000
theorem runs_le : ∀ (L : List (List UInt8)) (k : Nat),(∀ r ∈ L,r.length ≤ k) → L.flatten.length ≤ L.length * k
 | [],k,h => by simp
 | r :: L,k,h => by
  rw [List.flatten_cons,List.length_append,List.length_cons,Nat.add_mul,Nat.one_mul]
  have:=runs_le L k (fun x hx => h x (List.mem_cons_of_mem _ hx))
  have:=h r (List.mem_cons_self ..)
  omega
theorem Lr.size {s : ByteArray} (h : Lr s) : s.size ≤ 16000000:=by
 have h1:=runs_le (runs s.data.toList) 4000 h.r
 rw [runs_flat,dlen] at h1
 have h2:=h.n
 omega
theorem runs_len : ∀ (L : List (List UInt8)),(∀ r ∈ L,r ≠ []) → L.length ≤ L.flatten.length ∧ ∀ r ∈ L,r.length ≤ L.flatten.length
 | [],h => by simp
 | r :: L,h => by
  obtain ⟨h1,h2⟩:=runs_len L (fun x hx => h x (List.mem_cons_of_mem _ hx))
  rw [List.flatten_cons,List.length_append,List.length_cons]
  have h3 : 0 < r.length:=List.length_pos_iff.2 (h r (List.mem_cons_self ..))
  refine ⟨by omega,fun x hx => ?_⟩
  rcases List.mem_cons.1 hx with e | hx
  ·subst e; omega
  ·have:=h2 x hx; omega
theorem lr_small {s : ByteArray} (h : s.size < 4000) : Lr s:=by
 have h1:=runs_len (runs s.data.toList) (fun r hr => runs_ne _ r hr)
 rw [runs_flat,dlen] at h1
 exact ⟨by omega,fun r hr => by have:=h1.2 r hr; omega⟩
theorem lr_repl {s fr to_ : ByteArray} (h : Lr s) (hf : tokenB fr = true) (ht : tokenB to_ = true) (hs : to_.size < 4000) : Lr (replV s fr to_):=by
 have hr:=repl_runs hf ht s
 refine ⟨by rw [hr,List.length_map]; exact h.n,fun r hm => ?_⟩
 rw [hr] at hm
 obtain ⟨r',hr',rfl⟩:=List.mem_map.1 hm
 unfold repR
 split
 ·rw [dlen]; omega
 ·exact h.r r' hr'
structure Bnd (b : Nat) (l : List S41) : Prop where
 s : ∀ x ∈ l,x.f0.size ≤ 1000000000000
 n : ∀ x ∈ l,x.f2.length ≤ b
 r : ∀ x ∈ l,∀ s ∈ x.f2,Lr s
theorem Bnd.fit {b : Nat} {l : List S41} (h : Bnd b l) (hb : b ≤ 1000000000) : Fit l :=
 ⟨h.s,fun x hx => Nat.le_trans (h.n x hx) hb,fun x hx s hs => Nat.le_trans (h.r x hx s hs).size (by decide)⟩
theorem Bnd.mono {b c : Nat} {l : List S41} (h : Bnd b l) (hb : b ≤ c) : Bnd c l:=⟨h.s,fun x hx => Nat.le_trans (h.n x hx) hb,h.r⟩
theorem small_bnd {l : List S41} (h : ∀ x ∈ l,Small x) : Bnd 4000 l :=
 ⟨fun x hx => by have:=(h x hx).p; omega,fun x hx => by have:=(h x hx).n; omega,fun x hx s hs => lr_small ((h x hx).s s hs)⟩
structure SmallQ (p : S25) : Prop where
 f1 : p.f1.size < 4000
 f2 : p.f2.size < 4000
 f3 : p.f3.size < 4000
 n5 : p.f5.length < 4000
 n6 : p.f6.length < 4000
 s5 : ∀ t ∈ p.f5,t.size < 4000
 s6 : ∀ t ∈ p.f6,t.size < 4000
theorem smallq {p : S25} (h : SmallP p) : SmallQ p:=⟨h.f1,h.f2,h.f3,by have:=h.n; omega,by have:=h.n; omega,h.s5,h.s6⟩
theorem SmallQ.ok {p : S25} (h : SmallQ p) : Okp p :=
 ⟨⟨by have:=h.n5; omega,by have:=h.n6; omega⟩,by have:=h.f1; omega,by have:=h.f2; omega,by have:=h.f3; omega⟩
theorem SmallQ.fit {p : S25} (h : SmallQ p) : FitP p:=⟨h.ok,by have:=h.n5; omega,by have:=h.n6; omega,by have:=h.f2; omega⟩
theorem smallq_z : SmallQ z25:=⟨by decide,by decide,by decide,by decide,by decide,(fun t ht => by cases ht),(fun t ht => by cases ht)⟩
theorem SmallQ.inv {p : S25} (h : SmallQ p) : SmallQ (invS p):=by
 unfold invS
 split
 ·exact smallq_z
 split
 ·exact ⟨h.f1,h.f2,h.f3,h.n6,h.n5,h.s6,h.s5⟩
 split
 ·exact ⟨h.f1,h.f3,h.f2,h.n5,h.n6,h.s5,h.s6⟩
 split
 ·exact ⟨h.f1,h.f3,h.f2,h.n5,h.n6,h.s5,h.s6⟩
 split
 ·exact ⟨h.f2,h.f1,h.f3,h.n5,h.n6,h.s5,h.s6⟩
 ·exact ⟨h.f1,h.f2,h.f3,h.n5,h.n6,h.s5,h.s6⟩
theorem change_bnd {b : Nat} {x y : S41} {p : S25} (hn : x.f2.length ≤ b) (hr : ∀ s ∈ x.f2,Lr s) (hp : SmallQ p) (hq : primB p = true) (h : changeV x p = some y) : y.f2.length ≤ b + 4000 ∧ ∀ s ∈ y.f2,Lr s:=by
 unfold changeV at h
 split at h
 ·obtain ⟨M,hM,rfl⟩:=Option.map_eq_some_iff.mp h
  unfold hunkV at hM
  split at hM
  ·cases hM
   refine ⟨?_,fun s hs => ?_⟩
   ·show (x.f2.take p.f4.toNat ++ p.f6 ++ x.f2.drop (p.f4.toNat + p.f5.length)).length ≤ b + 4000
    simp only [List.length_append,List.length_take,List.length_drop]
    have:=hp.n6
    omega
   ·replace hs : s ∈ x.f2.take p.f4.toNat ++ p.f6 ++ x.f2.drop (p.f4.toNat + p.f5.length):=hs
    rcases List.mem_append.1 hs with hs | hs
    ·rcases List.mem_append.1 hs with hs | hs
     ·exact hr s (List.mem_of_mem_take hs)
     ·exact lr_small (hp.s6 s hs)
    ·exact hr s (List.mem_of_mem_drop hs)
  ·cases hM
 ·split at h
  ·rename_i h8
   obtain ⟨M,hM,rfl⟩:=Option.map_eq_some_iff.mp h
   unfold tokV at hM
   split at hM
   ·cases hM
   ·cases hM
    refine ⟨?_,fun s hs => ?_⟩
    ·show (x.f2.map _).length ≤ b + 4000
     rw [List.length_map]
     omega
    ·replace hs : s ∈ x.f2.map (fun s => replV s p.f3 p.f2):=hs
     obtain ⟨t,ht,rfl⟩:=List.mem_map.1 hs
     exact lr_repl (hr t ht) (prim_token hq h8).1 (prim_token hq h8).2.1 hp.f2
  ·split at h
   ·cases h
    exact ⟨by show x.f2.length ≤ b + 4000; omega,hr⟩
   ·cases h
theorem bnd_do {b : Nat} {l : List S41} {p : S25} (h : Bnd b l) (hp : SmallQ p) (ha : applyE l p = 0) : Bnd (b + 4000) (doL l p):=by
 have hT:=apply_tree ha
 obtain ⟨_,hq,_⟩:=apply_zero.mp ha
 have key : ∀ x ∈ doL l p,x.f2.length ≤ b + 4000 ∧ ∀ s ∈ x.f2,Lr s:=by
  have old : ∀ x ∈ l,x.f2.length ≤ b + 4000 ∧ ∀ s ∈ x.f2,Lr s:=fun x hx => ⟨by have:=h.n x hx; omega,h.r x hx⟩
  have hz : (z41.f2).length ≤ b + 4000 ∧ ∀ s ∈ z41.f2,Lr s:=⟨by show ([] : List ByteArray).length ≤ _; simp,fun s hs => by cases hs⟩
  intro x hx
  unfold doL at hx
  split at hx
  ·unfold moveL at hx
   obtain ⟨z,hz,rfl⟩:=List.mem_map.1 (sort_mem.1 hx)
   exact old z hz
  ·split at hx
   ·unfold changeL setL at hx
    rcases List.mem_or_eq_of_mem_set hx with hx | hx
    ·exact old x hx
    ·cases hc : changeV (thingAt l p.f1) p with
     | none => rw [hc] at hx; rw [hx]; exact hz
     | some y =>
      rw [hc] at hx
      rw [hx]
      unfold thingAt at hc
      cases hf : findV l p.f1 with
      | none =>
       rw [hf] at hc
       exact change_bnd (x:=z41) (by show ([] : List ByteArray).length ≤ b; simp) (fun s hs => by cases hs) hp hq hc
      | some z =>
       rw [hf] at hc
       exact change_bnd (x:=z) (h.n z (find_mem hf).1) (h.r z (find_mem hf).1) hp hq hc
   ·split at hx
    ·unfold insL at hx
     rcases List.mem_append.1 hx with hx | hx
     ·exact old x (List.mem_of_mem_take hx)
     ·rcases List.mem_cons.1 hx with hx | hx
      ·rw [hx]
       exact ⟨by show ([] : List ByteArray).length ≤ _; simp,fun s hs => by cases hs⟩
      ·exact old x (List.mem_of_mem_drop hx)
    ·unfold delL at hx
     exact old x (List.mem_of_mem_eraseIdx hx)
 refine ⟨fun x hx => ?_,fun x hx => (key x hx).1,fun x hx => (key x hx).2⟩
 have:=right_size (thing_path (hT.t x hx))
 omega
theorem bnd_run : ∀ (ps : List S25) (b : Nat) (l k : List S41),Bnd b l → (∀ p ∈ ps,SmallQ p) → runV l ps = some k → Bnd (b + 4000 * ps.length) k
 | [],b,l,k,hb,hp,h => by rw [← Option.some.inj h]; exact hb
 | p :: ps,b,l,k,hb,hp,h => by
  have h' : (if applyE l p = 0 then runV (doL l p) ps else none) = some k:=h
  split at h'
  ·rename_i h0
   have:=bnd_run ps (b + 4000) _ k (bnd_do hb (hp p (List.mem_cons_self ..)) h0) (fun q hq => hp q (List.mem_cons_of_mem _ hq)) h'
   refine this.mono ?_
   rw [List.length_cons]
   omega
  ·cases h'
theorem allE_or (l : List S41) (ps : List S25) : (∃ k,treeB l = true ∧ runV l ps = some k ∧ allE l ps = (k,0,0)) ∨ (∃ e j,e ≠ 0 ∧ allE l ps = ([],e,j) ∧ (treeB l = true → runV l ps = none)):=by
 unfold allE
 by_cases ht : treeB l = true
 ·rw [if_pos ht]
  rcases all_run ps l 0 with ⟨k,h1,h2⟩ | ⟨e,j,h1,h2,h3⟩
  ·exact .inl ⟨k,ht,h1,h2⟩
  ·exact .inr ⟨e,j,h2,h3,fun _ => h1⟩
 ·rw [if_neg ht]
  exact .inr ⟨1,0,by decide,rfl,fun h => absurd h ht⟩
theorem allE_run {l k : List S41} {ps : List S25} (ht : treeB l = true) (h : runV l ps = some k) : allE l ps = (k,0,0):=by
 rcases allE_or l ps with ⟨k',_,h1,h2⟩ | ⟨e,j,_,_,h3⟩
 ·rw [h] at h1; rw [h2,Option.some.inj h1]
 ·rw [h3 ht] at h; cases h
set_option maxHeartbeats 4000000 in
set_option maxRecDepth 1000000 in
theorem GL_at (ps : List S25) (P : Option Addr) (d : Nat) (w : World) (hps : Kd.C k25 w P ps.length ps) (hd : ps.length ≤ d) (hm : ps.length ≤ 1256584717458) (ho : ∀ p ∈ ps,Okp p) :
  ∃ r,(r = false → ps.length ≤ 60 ∧ ∀ p ∈ ps,SmallP p) ∧ ∀ U,Below w.heap.size w U → Calls Tryz.prog 28 #[.slice P ps.length d] U fun e w' => e = .returned (.bool r) ∧ Below U.heap.size U w':=by
 obtain ⟨f,hf⟩ : ∃ f : S25 → Bool,∀ p,Okp p → Ev (fun k => counterpanelaw08_Great.f k p.f0 p.f1 p.f2 p.f3 p.f4 p.f5 p.f6) (f p) ∧ (f p = false → SmallP p):=by
  classical
  exact ⟨fun p => if h : Okp p then (great8 p h.ok).choose else false,fun p hp => by simp only [dif_pos hp]; exact (great8 p hp.ok).choose_spec⟩
 refine ⟨decide (60 < ps.length) || ps.any f,fun h => ?_,fun U hU => ?_⟩
 ·rw [Bool.or_eq_false_iff,decide_eq_false_iff_not,List.any_eq_false] at h
  exact ⟨by omega,fun p hp => (hf p (ho p hp)).2 (by simpa using h.2 p hp)⟩
 have HPS:=Aside0.mk (Kd.C_below hps hU)
 obtain ⟨n,hN⟩ : ∃ n,ps.length = n:=⟨_,rfl⟩
 rw [hN] at hm HPS ⊢
 have HN:=Aside0.mk hN
 have HO:=Aside0.mk ho
 have HF:=Aside0.mk hf
 clear hps hN ho hf hd
 by_cases h60 : 60 < n
 ·have c1 : decide ((n : Int) > 60) = true:=decide_eq_true (by omega)
  have hr : (decide (60 < n) || ps.any f) = true:=by rw [decide_eq_true h60]; rfl
  rw [hr]
  clear hr h60
  go_enter Tryz.func28,Tryz.ntmps28
  go_wp2
  go_ret
  exact ⟨rfl,Below.refl _ _⟩
 ·have c1 : decide ((n : Int) > 60) = false:=decide_eq_false (by omega)
  have hr : Aside0 ((decide (60 < n) || ps.any f) = ps.any f):=⟨by rw [decide_eq_false h60]; rfl⟩
  obtain ⟨r,hrr⟩ : ∃ r,(decide (60 < n) || ps.any f) = r:=⟨_,rfl⟩
  rw [hrr] at hr ⊢
  clear hrr
  have hm' : n ≤ 60:=by omega
  clear h60 hm
  go_enter Tryz.func28,Tryz.ntmps28
  go_wp2
  go_loopg [3] n (fun kq u3 w' => ∃ (i : Nat),u3 = .int .i64 (i : Int) ∧ Aside0 (i + kq = n) ∧ Aside0 ((ps.drop i).any f = ps.any f) ∧ Aside0 (Below U.heap.size U w'))
  case atStart => exact ⟨0,rfl,⟨by omega⟩,⟨rfl⟩,⟨Below.refl _ _⟩⟩
  case round =>
   obtain ⟨i,rfl,hk,hany,hB⟩:=hrel
   by_cases hi : i < n
   ·have hil : i < ps.length:=by rw [HN.out]; exact hi
    have hcmp : decide ((i : Int) < (n : Int)) = true:=decide_eq_true (by omega)
    have i0 : (0 : Int) ≤ (i : Int):=by omega
    have i1 : (i : Int) < (n : Int):=by omega
    have hwi : IntKind.i64.wrap ((i : Int) + 1) = (i : Int) + 1:=wrap_small _ (by omega) (by omega)
    obtain ⟨ad,A5,c5,A6,c6,hP,x0,x1,x2,x3,x4,x5,x6,l5,g5,l6,g6⟩:=at_T25 (Kd.C_below HPS.out hB.out) (i : Int) i0 i1
    have hrd : rd_T25 ps (i : Int) = ps[i]:=by unfold rd_T25; rw [Int.toNat_natCast,List.getD_eq_getElem?_getD,List.getElem?_eq_getElem hil]; rfl
    have hdrop : ps.drop i = ps[i] :: ps.drop (i + 1):=List.drop_eq_getElem_cons hil
    rw [hrd] at x0 x1 x2 x3 x4 x5 x6 l5 g5 l6 g6
    rw [Int.toNat_natCast] at x0 x1 x2 x3 x4 x5 x6
    obtain ⟨p,hp⟩ : ∃ p,ps[i] = p:=⟨_,rfl⟩
    have hpo : Okp p:=by rw [← hp]; exact HO.out _ (List.getElem_mem hil)
    rw [hp] at x0 x1 x2 x3 x4 x5 x6 l5 g5 l6 g6 hdrop
    subst hP
    obtain ⟨k,hkk⟩:=(HF.out p hpo).1.rounds
    have hC:=counterpanelaw08_Great.calls k _ _ _ _ _ A5 c5 _ A6 c6 _ (f p) wr g5 l5 g6 l6 hkk
    replace hC:=Aside0.mk hC
    replace hdrop:=Aside0.mk hdrop
    clear hp hrd hkk hpo l5 g5 l6 g6
    obtain ⟨b,hb⟩ : ∃ b,f p = b:=⟨_,rfl⟩
    rw [hb] at hC
    replace hb:=Aside0.mk hb
    cases b with
    | true =>
     go_wp2_with (go_at_call 22; refine hC.out.mono ?_; rintro e w4 ⟨rfl,hb4⟩; replace hb4:=Aside0.mk hb4)
     go_ret
     exact ⟨by rw [hr.out,← hany.out,hdrop.out,List.any_cons,hb.out]; rfl,hB.out.trans (hb4.out.mono hB.out.size)⟩
    | false =>
     go_wp2_with (go_at_call 22; refine hC.out.mono ?_; rintro e w4 ⟨rfl,hb4⟩; replace hb4:=Aside0.mk hb4)
     go_roundg (n - (i + 1))
     case measure => have:=hk.out; omega
     case rel => exact ⟨i + 1,by simp,⟨by omega⟩,⟨by rw [← hany.out,hdrop.out,List.any_cons,hb.out]; rfl⟩,⟨hB.out.trans (hb4.out.mono hB.out.size)⟩⟩
   ·have hcmp : decide ((i : Int) < (n : Int)) = false:=decide_eq_false (by omega)
    have hd : Aside0 (ps.drop i = []):=⟨List.drop_eq_nil_of_le (by have:=HN.out; omega)⟩
    go_wp2
    go_ret
    exact ⟨by rw [hr.out,← hany.out,hd.out]; rfl,hB.out⟩
theorem L_at (b : Nat) (l : List S41) (A : Option Addr) (c : Nat) (ps : List S25) (P : Option Addr) (d : Nat) (w : World) (hr : Kd.C k41 w A l.length l) (hps : Kd.C k25 w P ps.length ps) (hb : Bnd b l) (hb0 : b ≤ 100000000) (hn : ps.length ≤ 100000) (hq : ∀ p ∈ ps,SmallQ p) :
  ∀ U,Below w.heap.size w U → Calls Tryz.prog 29 #[.slice A l.length c,.slice P ps.length d] U fun e w' =>
   ∃ S,e = .returned (.tuple #[S,.int .i64 (allE l ps).2.1,.int .i64 ((allE l ps).2.2 : Int)]) ∧ Below U.heap.size U w' ∧ ((allE l ps).2.1 = 0 → ∃ A c,S = .slice A (allE l ps).1.length c ∧ (allE l ps).1.length ≤ c ∧ Kd.C k41 w' A (allE l ps).1.length (allE l ps).1) ∧ ((allE l ps).2.1 ≠ 0 → S = .slice none 0 0):=by
 intro U hU
 refine (all_at l A c ps P d U (fun i M => i ≤ ps.length ∧ Bnd (b + 4000 * i) M) (Kd.C_below hr hU) (Kd.C_below hps hU) hb.s (by omega) (fun _ => ⟨Nat.zero_le _,hb⟩) ?_).mono ?_
 ·intro i M p hp hi
  have hil : i < ps.length:=(List.getElem?_eq_some_iff.1 hp).1
  have hs:=hq p (List.mem_of_getElem? hp)
  exact ⟨hi.2.fit (by omega),hs.fit,fun h0 => ⟨by omega,(bnd_do hi.2 hs h0).mono (by omega)⟩⟩
 ·rintro e w' ⟨hb,hi⟩
  by_cases hE : (allE l ps).2.1 = 0
  ·rw [if_pos hE] at hi
   obtain ⟨A',c',rfl,hl,hC⟩:=hi
   exact ⟨_,by rw [hE],hb,fun _ => ⟨A',c',rfl,hl,hC⟩,fun h => absurd hE h⟩
  ·rw [if_neg hE] at hi
   exact ⟨_,hi,hb,fun h => absurd h hE,fun _ => rfl⟩
abbrev P0 : S25:=⟨7,⟨#[97]⟩,⟨#[]⟩,⟨#[]⟩,0,[⟨#[120]⟩],[⟨#[121]⟩,⟨#[122]⟩]⟩
abbrev A0 : S25:=⟨7,⟨#[97]⟩,⟨#[]⟩,⟨#[]⟩,4,[⟨#[119]⟩],[]⟩
abbrev M0 : S25:=⟨10,⟨#[109]⟩,⟨#[110]⟩,⟨#[]⟩,0,[],[]⟩
abbrev N1 : S25:=⟨9,⟨#[109,47,120]⟩,⟨#[49]⟩,⟨#[]⟩,0,[],[]⟩
theorem five (w : World) (o1 o2 o3 o4 o5 : Obj) : (((((w.alloc o1).alloc o2).alloc o3).alloc o4).alloc o5).heap[w.heap.size]? = some o1 ∧ (((((w.alloc o1).alloc o2).alloc o3).alloc o4).alloc o5).heap[w.heap.size + 1]? = some o2 ∧ (((((w.alloc o1).alloc o2).alloc o3).alloc o4).alloc o5).heap[w.heap.size + 1 + 1]? = some o3 ∧ (((((w.alloc o1).alloc o2).alloc o3).alloc o4).alloc o5).heap[w.heap.size + 1 + 1 + 1]? = some o4 ∧ (((((w.alloc o1).alloc o2).alloc o3).alloc o4).alloc o5).heap[w.heap.size + 1 + 1 + 1 + 1]? = some o5 ∧ Below w.heap.size w (((((w.alloc o1).alloc o2).alloc o3).alloc o4).alloc o5):=by
 refine ⟨blk_alloc (blk_alloc (blk_alloc (box1 w o1 o2) _) _) _,blk_alloc (blk_alloc (blk_alloc (box2 w o1 o2) _) _) _,?_,?_,?_,?_⟩
 ·have h:=blk_alloc (box1 ((w.alloc o1).alloc o2) o3 o4) o5
  simpa using h
 ·have h:=blk_alloc (box2 ((w.alloc o1).alloc o2) o3 o4) o5
  simpa using h
 ·have h:=blk_new ((((w.alloc o1).alloc o2).alloc o3).alloc o4) o5
  simpa using h
 ·exact (((((Below.refl _ w).alloc (Nat.le_refl _) _).alloc (by simp) _).alloc (by simp; omega) _).alloc (by simp; omega) _).alloc (by simp; omega) _
theorem small_yes {p q a b : S25} (hy : Yes p q a b) (sp : SmallQ p) (sq : SmallQ q) : SmallQ a ∧ SmallQ b:=by
 obtain ⟨eb,ea⟩:=rule_keep hy.r
 have h:=rule_f1 hy.hp hy.hq
 rw [hy.r] at h
 have h1 : b.f1.size ≤ 272:=h.1
 have h2 : a.f1.size ≤ 272:=h.2
 refine ⟨⟨by omega,?_,?_,?_,?_,?_,?_⟩,⟨by omega,?_,?_,?_,?_,?_,?_⟩⟩
 ·rw [ea]; exact sq.f2
 ·rw [ea]; exact sq.f3
 ·rw [ea]; exact sq.n5
 ·rw [ea]; exact sq.n6
 ·rw [ea]; exact sq.s5
 ·rw [ea]; exact sq.s6
 ·rw [eb]; exact sp.f2
 ·rw [eb]; exact sp.f3
 ·rw [eb]; exact sp.n5
 ·rw [eb]; exact sp.n6
 ·rw [eb]; exact sp.s5
 ·rw [eb]; exact sp.s6
theorem infoP7 : (Tryz.prog.info? 25).map (fun i => (i.zero,i.size,i.bytes)) = some (some (.agg #[(.int .i64 0),(.string ⟨#[]⟩),(.string ⟨#[]⟩),(.string ⟨#[]⟩),(.int .i64 0),(.slice none 0 0),(.slice none 0 0)]),7,112):=by kernel_rfl
theorem lit0N (w : World) : Kd.N k25 25 (w.alloc (.cells #[] 25)) w.heap.size (fun _ => True) (.slice (some ⟨w.heap.size,0,none⟩) 0 0) []:=by
 have hr : Reps (fun x c => Kd.FK k25 w (fun _ => False) x c) k25.sz [] []:=Reps.none _ _
 have ho : Kd.NN k25 25 (w.alloc (.cells #[] 25)) w.heap.size (fun _ => False) (.slice (some ⟨w.heap.size,0,none⟩) 0 0) [] :=
  OwnRow.lit w w.heap.size (hr.imp_ (fun _ _ h => Kd.FK_below h (below_alloc (Below.refl _ _) _))) (Nat.le_refl _) (by simp)
 exact Kd.N_mono (Kd.NN_N ho (fun _ h => h.elim)) (fun _ _ => trivial)
theorem past_small : ∀ (ps : List S25) (p : S25) (ds : List S25) (b : S25),pastS p ps = some (ds,b) → (∀ x ∈ ps,SmallQ x) → SmallQ p → (∀ x ∈ ds,SmallQ x) ∧ SmallQ b
 | [],p,ds,b,h,hq,hp => by cases h; exact ⟨hq,hp⟩
 | q :: qs,p,ds,b,h,hq,hp => by
  rcases comm_or p q with e | ⟨x,y,hy,e⟩
  ·unfold pastS at h
   rw [e] at h
   cases h
  ·unfold pastS at h
   rw [e] at h
   obtain ⟨⟨ds',b'⟩,hs',hz⟩:=Option.map_eq_some_iff.mp (show (pastS y qs).map (fun z => (x :: z.1,z.2)) = some (ds,b) from h)
   simp only [Prod.mk.injEq] at hz
   obtain ⟨rfl,rfl⟩:=hz
   obtain ⟨sx,sy⟩:=small_yes hy hp (hq q (List.mem_cons_self ..))
   obtain ⟨r1,r2⟩:=past_small qs y ds' b' hs' (fun z hz => hq z (List.mem_cons_of_mem _ hz)) sy
   refine ⟨fun z hz => ?_,r2⟩
   rcases List.mem_cons.1 hz with e | hz
   ·rw [e]; exact sx
   ·exact r1 z hz
theorem swap_small : ∀ {a b x y : List S25},swapS a b = some (x,y) → (∀ z ∈ a,SmallQ z) → (∀ z ∈ b,SmallQ z) → (∀ z ∈ x,SmallQ z) ∧ (∀ z ∈ y,SmallQ z)
 | [],b,x,y,h,_,hb => by cases (show some (b,([] : List S25)) = some (x,y) from h); exact ⟨hb,fun z hz => absurd hz (List.not_mem_nil)⟩
 | p :: a,b,x,y,h,ha,hb => by
  obtain ⟨c,d,q,h1,h2,rfl⟩:=swap_cons h
  obtain ⟨g1,g2⟩:=swap_small h1 (fun z hz => ha z (List.mem_cons_of_mem _ hz)) hb
  obtain ⟨g3,g4⟩:=past_small c p x q h2 g1 (ha p (List.mem_cons_self))
  refine ⟨g3,fun z hz => ?_⟩
  rcases List.mem_cons.1 hz with rfl | hz
  ·exact g4
  ·exact g2 z hz
theorem join_small {p q x : S25} (h : joinS p q = some (some x)) (hp : SmallQ p) (hq : SmallQ q) : SmallQ x:=by
 unfold joinS at h
 split at h
 ·split at h
  ·cases h
  ·split at h
   ·cases h
    exact ⟨hp.f1,hq.f2,hp.f3,hp.n5,hp.n6,hp.s5,hp.s6⟩
   ·split at h
    ·cases h
     exact ⟨hp.f1,hp.f2,hp.f3,hp.n5,hq.n6,hp.s5,hq.s6⟩
    ·split at h
     ·cases h
      exact ⟨hp.f1,hq.f2,hp.f3,hp.n5,hp.n6,hp.s5,hp.s6⟩
     ·cases h
 ·cases h
theorem put_small : ∀ (s : List S25) (p : S25),(∀ z ∈ s,SmallQ z) → SmallQ p → ∀ z ∈ putS s p,SmallQ z
 | [],p,_,hp,z,hz => by rw [List.mem_singleton.1 hz]; exact hp
 | t :: r,p,hs,hp,z,hz => by
  unfold putS at hz
  split at hz
  ·rcases List.mem_cons.1 hz with rfl | hz
   ·exact hp
   ·exact hs z hz
  ·exact hs z (List.mem_cons_of_mem _ hz)
  ·rename_i x hj
   exact put_small r x (fun y hy => hs y (List.mem_cons_of_mem _ hy)) (join_small hj (hs t (List.mem_cons_self)) hp) z hz
theorem stack_small : ∀ (a s : List S25),(∀ z ∈ s,SmallQ z) → (∀ z ∈ a,SmallQ z) → ∀ z ∈ stackS s a,SmallQ z
 | [],s,hs,_ => hs
 | p :: a,s,hs,ha => stack_small a (putS s p) (put_small s p hs (ha p (List.mem_cons_self))) (fun z hz => ha z (List.mem_cons_of_mem _ hz))
theorem coal_small {a : List S25} (ha : ∀ z ∈ a,SmallQ z) : ∀ z ∈ coalS a,SmallQ z:=fun z hz => stack_small a [] (fun y hy => by cases hy) ha z (List.mem_reverse.1 hz)
theorem coalC_at (l : List S25) (A : Option Addr) (c : Nat) (w : World) (hl : ∀ x ∈ l,Okp x) (hn : l.length ≤ 1000000) (gl : Kd.C k25 w A l.length l) (hlc : l.length ≤ c) : ∀ U,Below w.heap.size w U →
  Calls Tryz.prog 50 #[.slice A l.length c] U fun e w' => ∃ B d,e = .returned (.slice B (coalS l).length d) ∧ (coalS l).length ≤ d ∧ Kd.C k25 w' B (coalS l).length (coalS l) ∧ Below U.heap.size U w':=fun U hU => by
 refine (coal_at l A c U hl (by omega) (Kd.C_below gl hU) hlc).mono ?_
 rintro e w' ⟨v,rfl,hr,hb⟩
 obtain ⟨B,d,rfl,hd,hC⟩:=rowP_C hr hb
 exact ⟨B,d,rfl,hd,hC,hb⟩
theorem swapC_at (a b : List S25) (A : Option Addr) (ca : Nat) (B : Option Addr) (cb : Nat) (w : World) (ha : ∀ x ∈ a,Okp x) (hb : ∀ x ∈ b,Okp x) (na : a.length ≤ 1000) (nb : b.length ≤ 1000) (ga : Kd.C k25 w A a.length a) (gb : Kd.C k25 w B b.length b) : ∀ U,Below w.heap.size w U →
  Calls Tryz.prog 47 #[.slice A a.length ca,.slice B b.length cb] U (SwapPost U a b):=fun U hU => callsIn_wide.1 (swap_in a b A ca B cb U ha hb na nb (Kd.C_below ga hU) (Kd.C_below gb hU))
theorem lastC_at (l : List S25) (k : Int) (A : Option Addr) (c : Nat) (w : World) (hl : ∀ x ∈ l,Okp x) (hn : l.length ≤ 1000) (gl : Kd.C k25 w A l.length l) (hlc : l.length ≤ c) : ∀ U,Below w.heap.size w U →
  Calls Tryz.prog 49 #[.slice A l.length c,.int .i64 k] U (LastPost U l k):=fun U hU => last_at l k A c U hl hn (Kd.C_below gl hU) hlc
theorem ans_row2 {w : World} {E : Int} {K : List S41} {S : Value} (h1 : E = 0 → ∃ A c,S = .slice A K.length c ∧ K.length ≤ c ∧ Kd.C k41 w A K.length K) (h2 : E ≠ 0 → S = .slice none 0 0) : ∃ A n c,S = .slice A n c:=by
 by_cases h : E = 0
 ·obtain ⟨A,c,e,_⟩:=h1 h
  exact ⟨A,_,c,e⟩
 ·exact ⟨none,0,0,h2 h⟩
theorem run_known {l M : List S41} {ps : List S25} (hl : ∀ x ∈ l,Small x) (hq : ∀ z ∈ ps,SmallQ z) (hn : ps.length ≤ 200) (ht : treeB l = true) (h : runV l ps = some M) : M.length ≤ 1024 ∧ ∀ x ∈ M,x.f2.length ≤ 140737488355328 :=
 ⟨(run_tree _ _ _ (tree_iff.1 ht) h).n,fun x hx => Nat.le_trans ((bnd_run _ 4000 l M (small_bnd hl) hq h).n x hx) (by omega)⟩
theorem allE_zero {l M : List S41} {ps : List S25} {J : Nat} (h : allE l ps = (M,0,J)) : treeB l = true ∧ runV l ps = some M:=by
 rcases allE_or l ps with ⟨k,h1,h2,h3⟩ | ⟨e,j,h1,h2,_⟩
 ·rw [h3] at h
  simp only [Prod.mk.injEq] at h
  rw [← h.1]
  exact ⟨h1,h2⟩
 ·rw [h2] at h
  simp only [Prod.mk.injEq] at h
  exact absurd h.2.1 h1
theorem sameRows_at (M : List S41) (hM : M.length ≤ 1024 ∧ ∀ x ∈ M,x.f2.length ≤ 140737488355328) (A : Option Addr) (c : Nat) (B : Option Addr) (d : Nat) (w : World) (h0 : Kd.C k41 w A M.length M) (h1 : M.length ≤ c) (h2 : Kd.C k41 w B M.length M) (h3 : M.length ≤ d) :
  ∀ U,Below w.heap.size w U → Calls Tryz.prog 27 #[.slice A M.length c,.slice B M.length d] U fun e w' => e = .returned (.bool true) ∧ Below U.heap.size U w' :=
 fun U h => sameE_at M (by have:=hM.1; omega) hM.2 A c B d U (Kd.C_below h0 h) h1 (Kd.C_below h2 h) h3
set_option maxHeartbeats 4000000 in
set_option maxRecDepth 1000000 in
theorem joins_calls (l : List S41) (A : Option Addr) (c : Nat) (ps : List S25) (P : Option Addr) (d : Nat) (w : World) (hr : Kd.C k41 w A l.length l) (hc : l.length ≤ c) (hn : l.length ≤ 140737488355328) (hx : ∀ x ∈ l,x.f2.length ≤ 140737488355328) (hps : Kd.C k25 w P ps.length ps) (hd : ps.length ≤ d) (hm : ps.length ≤ 1256584717458) (ho : ∀ p ∈ ps,Okp p) :
  Calls Tryz.prog 18 #[.slice A l.length c,.slice P ps.length d] w fun e w' => e = .returned (.bool true) ∧ Below w.heap.size w w':=by
 obtain ⟨g,hgs,hG⟩:=G_at l A c w hr hc hn hx
 obtain ⟨k2,hks2,hK2⟩:=GL_at ps P d w hps hd hm ho
 replace hG:=Aside0.mk hG
 replace hK2:=Aside0.mk hK2
 replace hgs:=Aside0.mk hgs
 replace hks2:=Aside0.mk hks2
 replace hn:=Aside0.mk hn
 replace hx:=Aside0.mk hx
 replace hr:=Aside0.mk hr
 replace hc:=Aside0.mk hc
 replace hps:=Aside0.mk hps
 replace hd:=Aside0.mk hd
 replace hm:=Aside0.mk hm
 replace ho:=Aside0.mk ho
 go_enter Tryz.func18,Tryz.ntmps18
 go_wp2_with (fail)
 refine (head11_calls _).mono ?_
 rintro e w1 ⟨rfl,hb1⟩
 have hs1 : Below w.heap.size w w1:=two_steps (by repeat (first | exact Below.refl _ _ | refine Below.setCell ?_ (by simp <;> omega) _ | refine Below.alloc ?_ (by simp <;> omega) _ | refine Below.drew ?_)) hb1
 have hw1 : Below w.heap.size w w1:=(Below.refl w.heap.size w).trans (hs1.mono (Below.refl w.heap.size w).size)
 clear hb1
 go_wp2_with (fail)
 refine (hG.out _ (by repeat (first | with_reducible exact hw1 | refine Below.setCell ?_ (by have:=hw1.size; simp <;> omega) _ | refine Below.alloc ?_ (by have:=hw1.size; simp <;> omega) _ | refine Below.drew ?_))).mono ?_
 rintro e w2 ⟨rfl,hb2⟩
 have hs2 : Below w1.heap.size w1 w2:=two_steps (by repeat (first | exact Below.refl _ _ | refine Below.setCell ?_ (by simp <;> omega) _ | refine Below.alloc ?_ (by simp <;> omega) _ | refine Below.drew ?_)) hb2
 have hw2 : Below w.heap.size w w2:=hw1.trans (hs2.mono hw1.size)
 clear hb2
 cases g with
 | true =>
  go_wp2
  go_ret
  exact ⟨rfl,(by repeat (first | with_reducible exact hw2 | refine Below.setCell ?_ (by have:=hw2.size; simp <;> omega) _ | refine Below.alloc ?_ (by have:=hw2.size; simp <;> omega) _ | refine Below.drew ?_))⟩
 | false =>
  go_wp2_with (fail)
  refine (hK2.out _ (by repeat (first | with_reducible exact hw2 | refine Below.setCell ?_ (by have:=hw2.size; simp <;> omega) _ | refine Below.alloc ?_ (by have:=hw2.size; simp <;> omega) _ | refine Below.drew ?_))).mono ?_
  rintro e w3 ⟨rfl,hb3⟩
  have hs3 : Below w2.heap.size w2 w3:=two_steps (by repeat (first | exact Below.refl _ _ | refine Below.setCell ?_ (by simp <;> omega) _ | refine Below.alloc ?_ (by simp <;> omega) _ | refine Below.drew ?_)) hb3
  have hw3 : Below w.heap.size w w3:=hw2.trans (hs3.mono hw2.size)
  clear hb3
  cases k2 with
  | true =>
   go_wp2
   go_ret
   exact ⟨rfl,(by repeat (first | with_reducible exact hw3 | refine Below.setCell ?_ (by have:=hw3.size; simp <;> omega) _ | refine Below.alloc ?_ (by have:=hw3.size; simp <;> omega) _ | refine Below.drew ?_))⟩
  | false =>
   have hsm:=Aside0.mk (hgs.out (by trivial))
   have hsq:=Aside0.mk (hks2.out (by trivial))
   have hq2 : Aside0 (∀ z ∈ ps,SmallQ z):=⟨fun z hz => smallq (hsq.out.2 z hz)⟩
   have hCo:=coalC_at ps P d w ho.out (by have:=hsq.out.1; omega) hps.out hd.out
   have hXq:=coal_small hq2.out
   have hXX:=coal_coal ps
   have hXl:=coal_len ps
   have hXr:=fun k h => coal_run (a:=ps) (l:=l) (k:=k) h
   obtain ⟨X,hX⟩ : ∃ X,coalS ps = X:=⟨_,rfl⟩
   rw [hX] at hCo hXq hXX hXl
   simp only [hX] at hXr
   clear hX
   have hle : decide ((ps.length : Int) < (X.length : Int)) = false:=decide_eq_false (by omega)
   have hle2 : (ps.length < X.length) = False:=eq_false (by omega)
   have hle3 : ((ps.length : Int) < (X.length : Int)) = False:=eq_false (by omega)
   replace hCo:=Aside0.mk hCo
   replace hXq:=Aside0.mk hXq
   replace hXX:=Aside0.mk hXX
   replace hXl:=Aside0.mk hXl
   replace hXr:=Aside0.mk hXr
   go_wp2_with (fail)
   refine (hCo.out _ (by repeat (first | with_reducible exact hw3 | refine Below.setCell ?_ (by have:=hw3.size; simp <;> omega) _ | refine Below.alloc ?_ (by have:=hw3.size; simp <;> omega) _ | refine Below.drew ?_))).mono ?_
   rintro e w4 ⟨B1,d1,rfl,hd1,gX1,hb4⟩
   have hs4 : Below w3.heap.size w3 w4:=two_steps (by repeat (first | exact Below.refl _ _ | refine Below.setCell ?_ (by simp <;> omega) _ | refine Below.alloc ?_ (by simp <;> omega) _ | refine Below.drew ?_)) hb4
   have hw4 : Below w.heap.size w w4:=hw3.trans (hs4.mono hw3.size)
   replace hd1:=Aside0.mk hd1
   replace gX1:=Aside0.mk gX1
   clear hb4
   have hCo2:=coalC_at X B1 d1 w4 (fun z hz => (hXq.out z hz).ok) (by have:=hsq.out.1; have:=hXl.out; omega) gX1.out hd1.out
   rw [hXX.out] at hCo2
   replace hCo2:=Aside0.mk hCo2
   go_wp2_with (fail)
   refine (hCo2.out _ (Below.refl _ _)).mono ?_
   rintro e w5 ⟨B2,d2,rfl,hd2,gX2,hb5⟩
   have hs5 : Below w4.heap.size w4 w5:=two_steps (by repeat (first | exact Below.refl _ _ | refine Below.setCell ?_ (by simp <;> omega) _ | refine Below.alloc ?_ (by simp <;> omega) _ | refine Below.drew ?_)) hb5
   have hw5 : Below w.heap.size w w5:=hw4.trans (hs5.mono hw4.size)
   replace hd2:=Aside0.mk hd2
   replace gX2:=Aside0.mk gX2
   have gX3:=Aside0.mk (Kd.C_below gX1.out hb5)
   clear hb5
   go_wp2_with (fail)
   refine (sameLP_at X (by have:=hsq.out.1; have:=hXl.out; omega) (fun z hz => (hXq.out z hz).ok) B2 d2 B1 d1 w5 gX2.out gX3.out).mono ?_
   rintro e w6 ⟨rfl,hb6⟩
   have hs6 : Below w5.heap.size w5 w6:=two_steps (by repeat (first | exact Below.refl _ _ | refine Below.setCell ?_ (by simp <;> omega) _ | refine Below.alloc ?_ (by simp <;> omega) _ | refine Below.drew ?_)) hb6
   have hw6 : Below w.heap.size w w6:=hw5.trans (hs6.mono hw5.size)
   have gX4:=Aside0.mk (Kd.C_below gX3.out hb6)
   clear hb6
   obtain ⟨R,hRR⟩ : ∃ R,allE l ps = R:=⟨_,rfl⟩
   have hA:=L_at 4000 l A c ps P d w6 (Kd.C_below hr.out hw6) (Kd.C_below hps.out hw6) (small_bnd hsm.out.2) (by decide) (by have:=hsq.out.1; omega) hq2.out
   rw [hRR] at hA
   obtain ⟨M,E,Jx⟩:=R
   dsimp only at hA
   replace hA:=Aside0.mk hA
   replace hRR:=Aside0.mk hRR
   go_wp2_with (fail)
   refine (hA.out _ (Below.refl _ _)).mono ?_
   rintro e w7 ⟨S1,rfl,hb7,hS,hSn⟩
   have hs7 : Below w6.heap.size w6 w7:=two_steps (by repeat (first | exact Below.refl _ _ | refine Below.setCell ?_ (by simp <;> omega) _ | refine Below.alloc ?_ (by simp <;> omega) _ | refine Below.drew ?_)) hb7
   have hw7 : Below w.heap.size w w7:=hw6.trans (hs7.mono hw6.size)
   replace hS:=Aside0.mk hS
   replace hSn:=Aside0.mk hSn
   clear hb7
   have gX5:=Aside0.mk (Kd.C_below gX4.out hs7)
   have hq2a:=hq2
   have hqn : Aside0 (ps.length ≤ 60):=⟨hsq.out.1⟩
   by_cases hz : E = 0
   ·subst hz
    have hrun:=Aside0.mk (allE_zero hRR.out)
    have hres : Aside0 (allE l X = (M,0,0)):=⟨allE_run hrun.out.1 (hXr.out M hrun.out.2)⟩
    have hMx:=Aside0.mk (run_known hsm.out.2 hq2a.out (by have:=hqn.out; omega) hrun.out.1 hrun.out.2)
    have hA2:=L_at 4000 l A c X B1 d1 w7 (Kd.C_below hr.out hw7) gX5.out (small_bnd hsm.out.2) (by decide) (by have:=hsq.out.1; have:=hXl.out; omega) hXq.out w7 (Below.refl _ _)
    rw [hres.out] at hA2
    dsimp only at hA2
    replace hA2:=Aside0.mk hA2
    obtain ⟨A4,c4,rfl,hl4,hC4⟩:=hS.out (by trivial)
    clear hS hSn
    replace hC4:=Aside0.mk hC4
    replace hl4:=Aside0.mk hl4
    go_wp2_with (fail)
    refine (hA2.out).mono ?_
    rintro e w8 ⟨S2,rfl,hb8,hT,-⟩
    have hs8 : Below w7.heap.size w7 w8:=two_steps (by repeat (first | exact Below.refl _ _ | refine Below.setCell ?_ (by simp <;> omega) _ | refine Below.alloc ?_ (by simp <;> omega) _ | refine Below.drew ?_)) hb8
    have hw8 : Below w.heap.size w w8:=hw7.trans (hs8.mono hw7.size)
    obtain ⟨A7,c7,rfl,hl7,hC7⟩:=hT (by trivial)
    clear hT
    replace hC7:=Aside0.mk hC7
    replace hl7:=Aside0.mk hl7
    have hC5:=Aside0.mk (Kd.C_below hC4.out hb8)
    clear hb8
    go_wp2_with (fail)
    refine ((sameRows_at M hMx.out A4 c4 A7 c7 w8 hC5.out hl4.out hC7.out hl7.out) _ (Below.refl _ _)).mono ?_
    rintro e w9 ⟨rfl,hb9⟩
    have hs9 : Below w8.heap.size w8 w9:=two_steps (by repeat (first | exact Below.refl _ _ | refine Below.setCell ?_ (by simp <;> omega) _ | refine Below.alloc ?_ (by simp <;> omega) _ | refine Below.drew ?_)) hb9
    have hw9 : Below w.heap.size w w9:=hw8.trans (hs9.mono hw8.size)
    clear hb9
    go_wp2
    go_ret
    exact ⟨rfl,(by repeat (first | with_reducible exact hw9 | refine Below.setCell ?_ (by have:=hw9.size; simp <;> omega) _ | refine Below.alloc ?_ (by have:=hw9.size; simp <;> omega) _ | refine Below.drew ?_))⟩
   ·skip
    have hne : (E != 0) = true:=by rw [bne_iff_ne]; exact hz
    have hne2 : (E == 0) = false:=by rw [beq_eq_false_iff_ne]; exact hz
    replace hz:=Aside0.mk hz
    have hA2:=L_at 4000 l A c X B1 d1 w7 (Kd.C_below hr.out hw7) gX5.out (small_bnd hsm.out.2) (by decide) (by have:=hsq.out.1; have:=hXl.out; omega) hXq.out w7 (Below.refl _ _)
    replace hA2:=Aside0.mk hA2
    obtain rfl:=hSn.out hz.out
    clear hS hSn
    go_wp2_with (fail)
    refine (hA2.out).mono ?_
    rintro e w8 ⟨S2,rfl,hb8,hT,hTn⟩
    have hs8 : Below w7.heap.size w7 w8:=two_steps (by repeat (first | exact Below.refl _ _ | refine Below.setCell ?_ (by simp <;> omega) _ | refine Below.alloc ?_ (by simp <;> omega) _ | refine Below.drew ?_)) hb8
    have hw8 : Below w.heap.size w w8:=hw7.trans (hs8.mono hw7.size)
    obtain ⟨A7,n7,c7,rfl⟩:=ans_row2 hT hTn
    clear hT hTn
    clear hb8
    go_wp2
    go_ret
    exact ⟨rfl,(by repeat (first | with_reducible exact hw8 | refine Below.setCell ?_ (by have:=hw8.size; simp <;> omega) _ | refine Below.alloc ?_ (by have:=hw8.size; simp <;> omega) _ | refine Below.drew ?_))⟩
set_option maxHeartbeats 4000000 in
set_option maxRecDepth 1000000 in
theorem swaps_calls (l : List S41) (A : Option Addr) (c : Nat) (ps : List S25) (P : Option Addr) (d : Nat) (qs : List S25) (Q : Option Addr) (e : Nat) (w : World) (hr : Kd.C k41 w A l.length l) (hc : l.length ≤ c) (hn : l.length ≤ 140737488355328) (hx : ∀ x ∈ l,x.f2.length ≤ 140737488355328) (hps : Kd.C k25 w P ps.length ps) (hd : ps.length ≤ d) (hm : ps.length ≤ 1256584717458) (ho : ∀ p ∈ ps,Okp p) (hqs : Kd.C k25 w Q qs.length qs) (he : qs.length ≤ e) (hm3 : qs.length ≤ 1256584717458) (ho3 : ∀ p ∈ qs,Okp p) :
  Calls Tryz.prog 16 #[.slice A l.length c,.slice P ps.length d,.slice Q qs.length e] w fun e w' => e = .returned (.bool true) ∧ Below w.heap.size w w':=by
 obtain ⟨g,hgs,hG⟩:=G_at l A c w hr hc hn hx
 obtain ⟨k2,hks2,hK2⟩:=GL_at ps P d w hps hd hm ho
 replace hG:=Aside0.mk hG
 replace hK2:=Aside0.mk hK2
 replace hgs:=Aside0.mk hgs
 replace hks2:=Aside0.mk hks2
 replace hn:=Aside0.mk hn
 replace hx:=Aside0.mk hx
 replace hr:=Aside0.mk hr
 replace hc:=Aside0.mk hc
 replace hps:=Aside0.mk hps
 replace hd:=Aside0.mk hd
 replace hm:=Aside0.mk hm
 replace ho:=Aside0.mk ho
 obtain ⟨k3,hks3,hK3⟩:=GL_at qs Q e w hqs he hm3 ho3
 replace hK3:=Aside0.mk hK3
 replace hks3:=Aside0.mk hks3
 replace hqs:=Aside0.mk hqs
 replace he:=Aside0.mk he
 replace hm3:=Aside0.mk hm3
 replace ho3:=Aside0.mk ho3
 go_enter Tryz.func16,Tryz.ntmps16
 go_wp2_with (fail)
 refine (head11_calls _).mono ?_
 rintro e w1 ⟨rfl,hb1⟩
 have hs1 : Below w.heap.size w w1:=two_steps (by repeat (first | exact Below.refl _ _ | refine Below.setCell ?_ (by simp <;> omega) _ | refine Below.alloc ?_ (by simp <;> omega) _ | refine Below.drew ?_)) hb1
 have hw1 : Below w.heap.size w w1:=(Below.refl w.heap.size w).trans (hs1.mono (Below.refl w.heap.size w).size)
 clear hb1
 go_wp2_with (fail)
 refine (hG.out _ (by repeat (first | with_reducible exact hw1 | refine Below.setCell ?_ (by have:=hw1.size; simp <;> omega) _ | refine Below.alloc ?_ (by have:=hw1.size; simp <;> omega) _ | refine Below.drew ?_))).mono ?_
 rintro e w2 ⟨rfl,hb2⟩
 have hs2 : Below w1.heap.size w1 w2:=two_steps (by repeat (first | exact Below.refl _ _ | refine Below.setCell ?_ (by simp <;> omega) _ | refine Below.alloc ?_ (by simp <;> omega) _ | refine Below.drew ?_)) hb2
 have hw2 : Below w.heap.size w w2:=hw1.trans (hs2.mono hw1.size)
 clear hb2
 cases g with
 | true =>
  go_wp2
  go_ret
  exact ⟨rfl,(by repeat (first | with_reducible exact hw2 | refine Below.setCell ?_ (by have:=hw2.size; simp <;> omega) _ | refine Below.alloc ?_ (by have:=hw2.size; simp <;> omega) _ | refine Below.drew ?_))⟩
 | false =>
  go_wp2_with (fail)
  refine (hK2.out _ (by repeat (first | with_reducible exact hw2 | refine Below.setCell ?_ (by have:=hw2.size; simp <;> omega) _ | refine Below.alloc ?_ (by have:=hw2.size; simp <;> omega) _ | refine Below.drew ?_))).mono ?_
  rintro e w3 ⟨rfl,hb3⟩
  have hs3 : Below w2.heap.size w2 w3:=two_steps (by repeat (first | exact Below.refl _ _ | refine Below.setCell ?_ (by simp <;> omega) _ | refine Below.alloc ?_ (by simp <;> omega) _ | refine Below.drew ?_)) hb3
  have hw3 : Below w.heap.size w w3:=hw2.trans (hs3.mono hw2.size)
  clear hb3
  cases k2 with
  | true =>
   go_wp2
   go_ret
   exact ⟨rfl,(by repeat (first | with_reducible exact hw3 | refine Below.setCell ?_ (by have:=hw3.size; simp <;> omega) _ | refine Below.alloc ?_ (by have:=hw3.size; simp <;> omega) _ | refine Below.drew ?_))⟩
  | false =>
   go_wp2_with (fail)
   refine (hK3.out _ (by repeat (first | with_reducible exact hw3 | refine Below.setCell ?_ (by have:=hw3.size; simp <;> omega) _ | refine Below.alloc ?_ (by have:=hw3.size; simp <;> omega) _ | refine Below.drew ?_))).mono ?_
   rintro e w4 ⟨rfl,hb4⟩
   have hs4 : Below w3.heap.size w3 w4:=two_steps (by repeat (first | exact Below.refl _ _ | refine Below.setCell ?_ (by simp <;> omega) _ | refine Below.alloc ?_ (by simp <;> omega) _ | refine Below.drew ?_)) hb4
   have hw4 : Below w.heap.size w w4:=hw3.trans (hs4.mono hw3.size)
   clear hb4
   cases k3 with
   | true =>
    go_wp2
    go_ret
    exact ⟨rfl,(by repeat (first | with_reducible exact hw4 | refine Below.setCell ?_ (by have:=hw4.size; simp <;> omega) _ | refine Below.alloc ?_ (by have:=hw4.size; simp <;> omega) _ | refine Below.drew ?_))⟩
   | false =>
    have hsm:=Aside0.mk (hgs.out (by trivial))
    have hsq:=Aside0.mk (hks2.out (by trivial))
    have hq2 : Aside0 (∀ z ∈ ps,SmallQ z):=⟨fun z hz => smallq (hsq.out.2 z hz)⟩
    have hsq3:=Aside0.mk (hks3.out (by trivial))
    have hq3 : Aside0 (∀ z ∈ qs,SmallQ z):=⟨fun z hz => smallq (hsq3.out.2 z hz)⟩
    have hSw:=swapC_at ps qs P d Q e w ho.out ho3.out (by have:=hsq.out.1; omega) (by have:=hsq3.out.1; omega) hps.out hqs.out
    unfold SwapPost at hSw
    cases hsw : swapS ps qs with
    | none =>
     have hsp : swapQ ps qs = ([],[],false):=by unfold swapQ; rw [hsw]
     rw [hsp] at hSw
     dsimp only at hSw
     replace hSw:=Aside0.mk hSw
     replace hsw:=Aside0.mk hsw
     replace hsp:=Aside0.mk hsp
     go_wp2_with (fail)
     refine (hSw.out _ (by repeat (first | with_reducible exact hw4 | refine Below.setCell ?_ (by have:=hw4.size; simp <;> omega) _ | refine Below.alloc ?_ (by have:=hw4.size; simp <;> omega) _ | refine Below.drew ?_))).mono ?_
     rintro e w5 ⟨X1,x1,Y1,y1,rfl,-,-,-,-,hb5⟩
     have hs5 : Below w4.heap.size w4 w5:=two_steps (by repeat (first | exact Below.refl _ _ | refine Below.setCell ?_ (by simp <;> omega) _ | refine Below.alloc ?_ (by simp <;> omega) _ | refine Below.drew ?_)) hb5
     have hw5 : Below w.heap.size w w5:=hw4.trans (hs5.mono hw4.size)
     clear hb5
     go_wp2
     go_ret
     exact ⟨rfl,(by repeat (first | with_reducible exact hw5 | refine Below.setCell ?_ (by have:=hw5.size; simp <;> omega) _ | refine Below.alloc ?_ (by have:=hw5.size; simp <;> omega) _ | refine Below.drew ?_))⟩
    | some r =>
     obtain ⟨xs,ys⟩:=r
     have hsp : swapQ ps qs = (xs,ys,true):=by unfold swapQ; rw [hsw]
     rw [hsp] at hSw
     dsimp only at hSw
     obtain ⟨l1,l2⟩:=swap_len hsw
     obtain ⟨s1,s2⟩:=swap_small hsw hq2.out hq3.out
     have hbk:=swap_back hsw ho.out ho3.out
     have hsp2 : swapQ xs ys = (ps,qs,true):=by unfold swapQ; rw [hbk]
     replace hSw:=Aside0.mk hSw
     replace hsw:=Aside0.mk hsw
     replace hsp:=Aside0.mk hsp
     replace l1:=Aside0.mk l1
     replace l2:=Aside0.mk l2
     replace s1:=Aside0.mk s1
     replace s2:=Aside0.mk s2
     replace hbk:=Aside0.mk hbk
     replace hsp2:=Aside0.mk hsp2
     go_wp2_with (fail)
     refine (hSw.out _ (by repeat (first | with_reducible exact hw4 | refine Below.setCell ?_ (by have:=hw4.size; simp <;> omega) _ | refine Below.alloc ?_ (by have:=hw4.size; simp <;> omega) _ | refine Below.drew ?_))).mono ?_
     rintro e w5 ⟨X1,x1,Y1,y1,rfl,gX1,hX1,gY1,hY1,hb5⟩
     have hs5 : Below w4.heap.size w4 w5:=two_steps (by repeat (first | exact Below.refl _ _ | refine Below.setCell ?_ (by simp <;> omega) _ | refine Below.alloc ?_ (by simp <;> omega) _ | refine Below.drew ?_)) hb5
     have hw5 : Below w.heap.size w w5:=hw4.trans (hs5.mono hw4.size)
     replace gX1:=Aside0.mk gX1
     replace gY1:=Aside0.mk gY1
     replace hX1:=Aside0.mk hX1
     replace hY1:=Aside0.mk hY1
     clear hb5
     have hSw2:=swapC_at xs ys X1 x1 Y1 y1 w5 (fun z hz => (s1.out z hz).ok) (fun z hz => (s2.out z hz).ok) (by have:=hsq3.out.1; have:=l1.out; omega) (by have:=hsq.out.1; have:=l2.out; omega) gX1.out gY1.out
     unfold SwapPost at hSw2
     rw [hsp2.out] at hSw2
     dsimp only at hSw2
     replace hSw2:=Aside0.mk hSw2
     go_wp2_with (fail)
     refine (hSw2.out _ (Below.refl _ _)).mono ?_
     rintro e w6 ⟨X2,x2,Y2,y2,rfl,gX2,hX2,gY2,hY2,hb6⟩
     have hs6 : Below w5.heap.size w5 w6:=two_steps (by repeat (first | exact Below.refl _ _ | refine Below.setCell ?_ (by simp <;> omega) _ | refine Below.alloc ?_ (by simp <;> omega) _ | refine Below.drew ?_)) hb6
     have hw6 : Below w.heap.size w w6:=hw5.trans (hs6.mono hw5.size)
     replace gX2:=Aside0.mk gX2
     replace gY2:=Aside0.mk gY2
     replace hX2:=Aside0.mk hX2
     replace hY2:=Aside0.mk hY2
     have gX3:=Aside0.mk (Kd.C_below gX1.out hb6)
     have gY3:=Aside0.mk (Kd.C_below gY1.out hb6)
     clear hb6
     have e1 : ((xs.length : Int) != (qs.length : Int)) = false:=by rw [l1.out]; simp
     have e2 : ((ys.length : Int) != (ps.length : Int)) = false:=by rw [l2.out]; simp
     go_wp2_with (fail)
     refine (sameLP_at ps (by have:=hsq.out.1; omega) ho.out X2 x2 P d _ gX2.out (Kd.C_below hps.out hw6)).mono ?_
     rintro e w7 ⟨rfl,hb7⟩
     have hs7 : Below w6.heap.size w6 w7:=two_steps (by repeat (first | exact Below.refl _ _ | refine Below.setCell ?_ (by simp <;> omega) _ | refine Below.alloc ?_ (by simp <;> omega) _ | refine Below.drew ?_)) hb7
     have hw7 : Below w.heap.size w w7:=hw6.trans (hs7.mono hw6.size)
     have gX4:=Aside0.mk (Kd.C_below gX3.out hb7)
     have gY4:=Aside0.mk (Kd.C_below gY3.out hb7)
     have gY2':=Aside0.mk (Kd.C_below gY2.out hb7)
     clear hb7
     go_wp2_with (fail)
     refine (sameLP_at qs (by have:=hsq3.out.1; omega) ho3.out Y2 y2 Q e _ gY2'.out (Kd.C_below hqs.out hw7)).mono ?_
     rintro e w8 ⟨rfl,hb8⟩
     have hs8 : Below w7.heap.size w7 w8:=two_steps (by repeat (first | exact Below.refl _ _ | refine Below.setCell ?_ (by simp <;> omega) _ | refine Below.alloc ?_ (by simp <;> omega) _ | refine Below.drew ?_)) hb8
     have hw8 : Below w.heap.size w w8:=hw7.trans (hs8.mono hw7.size)
     have gX5:=Aside0.mk (Kd.C_below gX4.out hb8)
     have gY5:=Aside0.mk (Kd.C_below gY4.out hb8)
     clear hb8
     clear e1 e2
     go_upto_region 10 with (fail)
     have hT : Aside0 (Below w8.heap.size w8 (w8.alloc (.cells #[] 25))):=⟨below_alloc (Below.refl _ _) _⟩
     have hN0:=Aside0.mk (lit0N w8)
     have FA : Aside0 (Kd.F k25 w8 (fun k => k < w8.heap.size) P ps.length ps):=⟨Kd.C_F k25_heap (Kd.C_below hps.out hw8)⟩
     have FB : Aside0 (Kd.F k25 w8 (fun k => k < w8.heap.size) Q qs.length qs):=⟨Kd.C_F k25_heap (Kd.C_below hqs.out hw8)⟩
     have ok0 : Aside0 (∀ k,k < w8.heap.size → True ∧ some k ≠ (Value.slice (some ⟨w8.heap.size,0,none⟩) 0 0).ownBlock):=⟨fun k hk => ⟨trivial,fun e => by simp [Value.ownBlock] at e; omega⟩⟩
     go_upto_region 11 with (first | ((with_reducible refine gate_builtin (b:=.append) (xs:=#[.tmp 89,.tmp 90]) rfl ?_); at_builtin; refine Kd.N_append_rows k25 (w0:=w8) w8.heap.size rfl (.tmp 89) (.tmp 90) 34 25 (.agg #[(.int .i64 0),(.string ⟨#[]⟩),(.string ⟨#[]⟩),(.string ⟨#[]⟩),(.int .i64 0),(.slice none 0 0),(.slice none 0 0)]) 112 rfl Tryz.underlying34 infoP7 rfl (by decide) (by omega) (.slice (some ⟨w8.heap.size,0,none⟩) 0 0) [] ps P ps.length d (fun _ => True) (fun k => k < w8.heap.size) rfl rfl ?aO ?aR ?aP (fun _ _ => trivial) ?aB ?aS ?aL ?_; (case aO => exact hN0.out); (case aR => exact Kd.F_below FA.out hT.out); (case aP => exact ok0.out); (case aB => exact hT.out); (case aS => exact (hT.out).size); (case aL => have:=hsq.out.1; simp; omega); intro v11 y11 hN11 hB11 hg_ hat_; replace hN11:=Aside0.mk hN11; replace hB11:=Aside0.mk hB11; clear hg_ hat_; obtain ⟨Dv11,dv11,hv11⟩:=Kd.N_slice hN11.out; subst hv11) | ((with_reducible refine gate_builtin (b:=.append) (xs:=#[.tmp 91,.tmp 92]) rfl ?_); at_builtin; refine Kd.N_append_rows k25 (w0:=w8) w8.heap.size rfl (.tmp 91) (.tmp 92) 34 25 (.agg #[(.int .i64 0),(.string ⟨#[]⟩),(.string ⟨#[]⟩),(.string ⟨#[]⟩),(.int .i64 0),(.slice none 0 0),(.slice none 0 0)]) 112 rfl Tryz.underlying34 infoP7 rfl (by decide) (by omega) (.slice Dv11 ([] ++ ps).length dv11) ([] ++ ps) qs Q qs.length e (fun _ => True) (fun k => k < w8.heap.size) rfl rfl ?aO ?aR ?aP (fun _ _ => trivial) ?aB ?aS ?aL ?_; (case aO => exact hN11.out); (case aR => exact Kd.F_below FB.out hB11.out); (case aP => exact (fun k hk => ⟨trivial,fun e => absurd (Kd.N_base hN11.out k e.symm) (by omega)⟩)); (case aB => exact hB11.out); (case aS => exact (hB11.out).size); (case aL => have:=hsq.out.1; have:=hsq3.out.1; simp; omega); intro v12 y12 hN12 hB12 hg_ hat_; replace hN12:=Aside0.mk hN12; replace hB12:=Aside0.mk hB12; clear hg_ hat_))
     obtain ⟨D1,d21,rfl,hD1,gD1⟩:=Kd.N_reads hN12.out
     have hs9 : Below w8.heap.size w8 y12:=hB12.out
     have hw9 : Below w.heap.size w y12:=hw8.trans (hs9.mono hw8.size)
     clear hT hN0 FA FB ok0 hN11 hN12 hB11
     obtain ⟨j1,hj1⟩ : ∃ j,[] ++ ps ++ qs = j:=⟨_,rfl⟩
     rw [hj1] at hD1 gD1 ⊢
     rw [List.nil_append] at hj1
     replace hj1:=Aside0.mk hj1
     replace hD1:=Aside0.mk hD1
     replace gD1:=Aside0.mk gD1
     have hjl1 : Aside0 (j1.length = ps.length + qs.length):=⟨by rw [← hj1.out,List.length_append]⟩
     have gX6:=Aside0.mk (Kd.C_below gX5.out hs9)
     have gY6:=Aside0.mk (Kd.C_below gY5.out hs9)
     have hT : Aside0 (Below y12.heap.size y12 (y12.alloc (.cells #[] 25))):=⟨below_alloc (Below.refl _ _) _⟩
     have hN0:=Aside0.mk (lit0N y12)
     have FA : Aside0 (Kd.F k25 y12 (fun k => k < y12.heap.size) X1 xs.length xs):=⟨Kd.C_F k25_heap (gX6.out)⟩
     have FB : Aside0 (Kd.F k25 y12 (fun k => k < y12.heap.size) Y1 ys.length ys):=⟨Kd.C_F k25_heap (gY6.out)⟩
     have ok0 : Aside0 (∀ k,k < y12.heap.size → True ∧ some k ≠ (Value.slice (some ⟨y12.heap.size,0,none⟩) 0 0).ownBlock):=⟨fun k hk => ⟨trivial,fun e => by simp [Value.ownBlock] at e; omega⟩⟩
     go_upto_region 12 with (first | ((with_reducible refine gate_builtin (b:=.append) (xs:=#[.tmp 94,.tmp 95]) rfl ?_); at_builtin; refine Kd.N_append_rows k25 (w0:=y12) y12.heap.size rfl (.tmp 94) (.tmp 95) 34 25 (.agg #[(.int .i64 0),(.string ⟨#[]⟩),(.string ⟨#[]⟩),(.string ⟨#[]⟩),(.int .i64 0),(.slice none 0 0),(.slice none 0 0)]) 112 rfl Tryz.underlying34 infoP7 rfl (by decide) (by omega) (.slice (some ⟨y12.heap.size,0,none⟩) 0 0) [] xs X1 xs.length x1 (fun _ => True) (fun k => k < y12.heap.size) rfl rfl ?aO ?aR ?aP (fun _ _ => trivial) ?aB ?aS ?aL ?_; (case aO => exact hN0.out); (case aR => exact Kd.F_below FA.out hT.out); (case aP => exact ok0.out); (case aB => exact hT.out); (case aS => exact (hT.out).size); (case aL => have:=hsq3.out.1; have:=l1.out; simp; omega); intro v21 y21 hN21 hB21 hg_ hat_; replace hN21:=Aside0.mk hN21; replace hB21:=Aside0.mk hB21; clear hg_ hat_; obtain ⟨Dv21,dv21,hv21⟩:=Kd.N_slice hN21.out; subst hv21) | ((with_reducible refine gate_builtin (b:=.append) (xs:=#[.tmp 96,.tmp 97]) rfl ?_); at_builtin; refine Kd.N_append_rows k25 (w0:=y12) y12.heap.size rfl (.tmp 96) (.tmp 97) 34 25 (.agg #[(.int .i64 0),(.string ⟨#[]⟩),(.string ⟨#[]⟩),(.string ⟨#[]⟩),(.int .i64 0),(.slice none 0 0),(.slice none 0 0)]) 112 rfl Tryz.underlying34 infoP7 rfl (by decide) (by omega) (.slice Dv21 ([] ++ xs).length dv21) ([] ++ xs) ys Y1 ys.length y1 (fun _ => True) (fun k => k < y12.heap.size) rfl rfl ?aO ?aR ?aP (fun _ _ => trivial) ?aB ?aS ?aL ?_; (case aO => exact hN21.out); (case aR => exact Kd.F_below FB.out hB21.out); (case aP => exact (fun k hk => ⟨trivial,fun e => absurd (Kd.N_base hN21.out k e.symm) (by omega)⟩)); (case aB => exact hB21.out); (case aS => exact (hB21.out).size); (case aL => have:=hsq3.out.1; have:=l1.out; have:=hsq.out.1; have:=l2.out; simp; omega); intro v22 y22 hN22 hB22 hg_ hat_; replace hN22:=Aside0.mk hN22; replace hB22:=Aside0.mk hB22; clear hg_ hat_))
     obtain ⟨D2,d22,rfl,hD2,gD2⟩:=Kd.N_reads hN22.out
     have hs10 : Below y12.heap.size y12 y22:=hB22.out
     have hw10 : Below w.heap.size w y22:=hw9.trans (hs10.mono hw9.size)
     clear hT hN0 FA FB ok0 hN21 hN22 hB21
     obtain ⟨j2,hj2⟩ : ∃ j,[] ++ xs ++ ys = j:=⟨_,rfl⟩
     rw [hj2] at hD2 gD2 ⊢
     rw [List.nil_append] at hj2
     replace hj2:=Aside0.mk hj2
     replace hD2:=Aside0.mk hD2
     replace gD2:=Aside0.mk gD2
     have hjl2 : Aside0 (j2.length = xs.length + ys.length):=⟨by rw [← hj2.out,List.length_append]⟩
     have gJ1:=Aside0.mk (Kd.C_below gD1.out hs10)
     have hq2a : Aside0 (∀ z ∈ j1,SmallQ z):=⟨fun z hz => by rw [← hj1.out] at hz; exact (List.mem_append.1 hz).elim (hq2.out z) (hq3.out z)⟩
     have hq2b : Aside0 (∀ z ∈ j2,SmallQ z):=⟨fun z hz => by rw [← hj2.out] at hz; exact (List.mem_append.1 hz).elim (s1.out z) (s2.out z)⟩
     have hqn : Aside0 (j1.length ≤ 120):=⟨by have:=hjl1.out; have:=hsq.out.1; have:=hsq3.out.1; omega⟩
     have hqm : Aside0 (j2.length ≤ 120):=⟨by have:=hjl2.out; have:=hsq.out.1; have:=hsq3.out.1; have:=l1.out; have:=l2.out; omega⟩
     have hrr : Aside0 (∀ M,runV l j1 = some M → runV l j2 = some M):=⟨fun M h => by rw [← hj1.out] at h; rw [← hj2.out]; exact swap_run hsw.out ho.out ho3.out (by have:=hsm.out.1; have:=hsq.out.1; have:=hsq3.out.1; omega) h⟩
     obtain ⟨R,hRR⟩ : ∃ R,allE l j1 = R:=⟨_,rfl⟩
     have hA:=L_at 4000 l A c j1 D1 d21 y22 (Kd.C_below hr.out hw10) gJ1.out (small_bnd hsm.out.2) (by decide) (by have:=hqn.out; omega) hq2a.out
     rw [hRR] at hA
     obtain ⟨M,E,Jx⟩:=R
     dsimp only at hA
     replace hA:=Aside0.mk hA
     replace hRR:=Aside0.mk hRR
     go_wp2_with (fail)
     refine (hA.out _ (Below.refl _ _)).mono ?_
     rintro e w11 ⟨S1,rfl,hb11,hS,hSn⟩
     have hs11 : Below y22.heap.size y22 w11:=two_steps (by repeat (first | exact Below.refl _ _ | refine Below.setCell ?_ (by simp <;> omega) _ | refine Below.alloc ?_ (by simp <;> omega) _ | refine Below.drew ?_)) hb11
     have hw11 : Below w.heap.size w w11:=hw10.trans (hs11.mono hw10.size)
     replace hS:=Aside0.mk hS
     replace hSn:=Aside0.mk hSn
     clear hb11
     have gJ2:=Aside0.mk (Kd.C_below gD2.out hs11)
     by_cases hz : E = 0
     ·subst hz
      have hrun:=Aside0.mk (allE_zero hRR.out)
      have hres : Aside0 (allE l j2 = (M,0,0)):=⟨allE_run hrun.out.1 (hrr.out M hrun.out.2)⟩
      have hMx:=Aside0.mk (run_known hsm.out.2 hq2a.out (by have:=hqn.out; omega) hrun.out.1 hrun.out.2)
      have hA2:=L_at 4000 l A c j2 D2 d22 w11 (Kd.C_below hr.out hw11) gJ2.out (small_bnd hsm.out.2) (by decide) (by have:=hqm.out; omega) hq2b.out w11 (Below.refl _ _)
      rw [hres.out] at hA2
      dsimp only at hA2
      replace hA2:=Aside0.mk hA2
      obtain ⟨A4,c4,rfl,hl4,hC4⟩:=hS.out (by trivial)
      clear hS hSn
      replace hC4:=Aside0.mk hC4
      replace hl4:=Aside0.mk hl4
      go_wp2_with (fail)
      refine (hA2.out).mono ?_
      rintro e w12 ⟨S2,rfl,hb12,hT,-⟩
      have hs12 : Below w11.heap.size w11 w12:=two_steps (by repeat (first | exact Below.refl _ _ | refine Below.setCell ?_ (by simp <;> omega) _ | refine Below.alloc ?_ (by simp <;> omega) _ | refine Below.drew ?_)) hb12
      have hw12 : Below w.heap.size w w12:=hw11.trans (hs12.mono hw11.size)
      obtain ⟨A7,c7,rfl,hl7,hC7⟩:=hT (by trivial)
      clear hT
      replace hC7:=Aside0.mk hC7
      replace hl7:=Aside0.mk hl7
      have hC5:=Aside0.mk (Kd.C_below hC4.out hb12)
      clear hb12
      go_wp2_with (fail)
      refine ((sameRows_at M hMx.out A4 c4 A7 c7 w12 hC5.out hl4.out hC7.out hl7.out) _ (Below.refl _ _)).mono ?_
      rintro e w13 ⟨rfl,hb13⟩
      have hs13 : Below w12.heap.size w12 w13:=two_steps (by repeat (first | exact Below.refl _ _ | refine Below.setCell ?_ (by simp <;> omega) _ | refine Below.alloc ?_ (by simp <;> omega) _ | refine Below.drew ?_)) hb13
      have hw13 : Below w.heap.size w w13:=hw12.trans (hs13.mono hw12.size)
      clear hb13
      go_wp2
      go_ret
      exact ⟨rfl,(by repeat (first | with_reducible exact hw13 | refine Below.setCell ?_ (by have:=hw13.size; simp <;> omega) _ | refine Below.alloc ?_ (by have:=hw13.size; simp <;> omega) _ | refine Below.drew ?_))⟩
     ·skip
      have hne : (E != 0) = true:=by rw [bne_iff_ne]; exact hz
      have hne2 : (E == 0) = false:=by rw [beq_eq_false_iff_ne]; exact hz
      replace hz:=Aside0.mk hz
      have hA2:=L_at 4000 l A c j2 D2 d22 w11 (Kd.C_below hr.out hw11) gJ2.out (small_bnd hsm.out.2) (by decide) (by have:=hqm.out; omega) hq2b.out w11 (Below.refl _ _)
      replace hA2:=Aside0.mk hA2
      obtain rfl:=hSn.out hz.out
      clear hS hSn
      go_wp2_with (fail)
      refine (hA2.out).mono ?_
      rintro e w12 ⟨S2,rfl,hb12,hT,hTn⟩
      have hs12 : Below w11.heap.size w11 w12:=two_steps (by repeat (first | exact Below.refl _ _ | refine Below.setCell ?_ (by simp <;> omega) _ | refine Below.alloc ?_ (by simp <;> omega) _ | refine Below.drew ?_)) hb12
      have hw12 : Below w.heap.size w w12:=hw11.trans (hs12.mono hw11.size)
      obtain ⟨A7,n7,c7,rfl⟩:=ans_row2 hT hTn
      clear hT hTn
      clear hb12
      go_wp2
      go_ret
      exact ⟨rfl,(by repeat (first | with_reducible exact hw12 | refine Below.setCell ?_ (by have:=hw12.size; simp <;> omega) _ | refine Below.alloc ?_ (by have:=hw12.size; simp <;> omega) _ | refine Below.drew ?_))⟩
set_option maxHeartbeats 4000000 in
set_option maxRecDepth 1000000 in
theorem last_calls (l : List S41) (A : Option Addr) (c : Nat) (ps : List S25) (P : Option Addr) (d : Nat) (at_ : Int) (w : World) (hr : Kd.C k41 w A l.length l) (hc : l.length ≤ c) (hn : l.length ≤ 140737488355328) (hx : ∀ x ∈ l,x.f2.length ≤ 140737488355328) (hps : Kd.C k25 w P ps.length ps) (hd : ps.length ≤ d) (hm : ps.length ≤ 1256584717458) (ho : ∀ p ∈ ps,Okp p) :
  Calls Tryz.prog 17 #[.slice A l.length c,.slice P ps.length d,.int .i64 at_] w fun e w' => e = .returned (.bool true) ∧ Below w.heap.size w w':=by
 obtain ⟨g,hgs,hG⟩:=G_at l A c w hr hc hn hx
 obtain ⟨k2,hks2,hK2⟩:=GL_at ps P d w hps hd hm ho
 replace hG:=Aside0.mk hG
 replace hK2:=Aside0.mk hK2
 replace hgs:=Aside0.mk hgs
 replace hks2:=Aside0.mk hks2
 replace hn:=Aside0.mk hn
 replace hx:=Aside0.mk hx
 replace hr:=Aside0.mk hr
 replace hc:=Aside0.mk hc
 replace hps:=Aside0.mk hps
 replace hd:=Aside0.mk hd
 replace hm:=Aside0.mk hm
 replace ho:=Aside0.mk ho
 go_enter Tryz.func17,Tryz.ntmps17
 go_wp2_with (fail)
 refine (head11_calls _).mono ?_
 rintro e w1 ⟨rfl,hb1⟩
 have hs1 : Below w.heap.size w w1:=two_steps (by repeat (first | exact Below.refl _ _ | refine Below.setCell ?_ (by simp <;> omega) _ | refine Below.alloc ?_ (by simp <;> omega) _ | refine Below.drew ?_)) hb1
 have hw1 : Below w.heap.size w w1:=(Below.refl w.heap.size w).trans (hs1.mono (Below.refl w.heap.size w).size)
 clear hb1
 go_wp2_with (fail)
 refine (hG.out _ (by repeat (first | with_reducible exact hw1 | refine Below.setCell ?_ (by have:=hw1.size; simp <;> omega) _ | refine Below.alloc ?_ (by have:=hw1.size; simp <;> omega) _ | refine Below.drew ?_))).mono ?_
 rintro e w2 ⟨rfl,hb2⟩
 have hs2 : Below w1.heap.size w1 w2:=two_steps (by repeat (first | exact Below.refl _ _ | refine Below.setCell ?_ (by simp <;> omega) _ | refine Below.alloc ?_ (by simp <;> omega) _ | refine Below.drew ?_)) hb2
 have hw2 : Below w.heap.size w w2:=hw1.trans (hs2.mono hw1.size)
 clear hb2
 cases g with
 | true =>
  go_wp2
  go_ret
  exact ⟨rfl,(by repeat (first | with_reducible exact hw2 | refine Below.setCell ?_ (by have:=hw2.size; simp <;> omega) _ | refine Below.alloc ?_ (by have:=hw2.size; simp <;> omega) _ | refine Below.drew ?_))⟩
 | false =>
  go_wp2_with (fail)
  refine (hK2.out _ (by repeat (first | with_reducible exact hw2 | refine Below.setCell ?_ (by have:=hw2.size; simp <;> omega) _ | refine Below.alloc ?_ (by have:=hw2.size; simp <;> omega) _ | refine Below.drew ?_))).mono ?_
  rintro e w3 ⟨rfl,hb3⟩
  have hs3 : Below w2.heap.size w2 w3:=two_steps (by repeat (first | exact Below.refl _ _ | refine Below.setCell ?_ (by simp <;> omega) _ | refine Below.alloc ?_ (by simp <;> omega) _ | refine Below.drew ?_)) hb3
  have hw3 : Below w.heap.size w w3:=hw2.trans (hs3.mono hw2.size)
  clear hb3
  cases k2 with
  | true =>
   go_wp2
   go_ret
   exact ⟨rfl,(by repeat (first | with_reducible exact hw3 | refine Below.setCell ?_ (by have:=hw3.size; simp <;> omega) _ | refine Below.alloc ?_ (by have:=hw3.size; simp <;> omega) _ | refine Below.drew ?_))⟩
  | false =>
   have hsm:=Aside0.mk (hgs.out (by trivial))
   have hsq:=Aside0.mk (hks2.out (by trivial))
   have hq2 : Aside0 (∀ z ∈ ps,SmallQ z):=⟨fun z hz => smallq (hsq.out.2 z hz)⟩
   have hLa:=lastC_at ps at_ P d w ho.out (by have:=hsq.out.1; omega) hps.out hd.out
   unfold LastPost at hLa
   have hfacts : (lastP ps at_).2 = true → 0 ≤ at_ ∧ at_ < (ps.length : Int) ∧ (lastP ps at_).1.length = ps.length ∧ (∀ z ∈ (lastP ps at_).1,SmallQ z) ∧ ∀ M,runV l ps = some M → runV l (lastP ps at_).1 = some M:=fun h => by
    have hi : ¬ (at_ < 0 ∨ (ps.length : Int) ≤ at_):=fun k => by rw [lastP_out k] at h; cases h
    obtain ⟨i,rfl⟩ : ∃ i : Nat,at_ = (i : Int):=⟨at_.toNat,by omega⟩
    have hil : i < ps.length:=by omega
    cases hp : pastS ps[i] (ps.drop (i + 1)) with
    | none => rw [lastP_in hil,lastS_no hil hp] at h; cases h
    | some y =>
     obtain ⟨ys,q⟩:=y
     rw [lastP_in hil,lastS_yes hil hp]
     have hpl:=past_len hp
     have hsp:=past_small _ _ _ _ hp (fun z hz => hq2.out z (List.mem_of_mem_drop hz)) (hq2.out _ (List.getElem_mem hil))
     refine ⟨by omega,by omega,?_,?_,?_⟩
     ·simp only [List.length_append,List.length_take,List.length_singleton,hpl,List.length_drop]; omega
     ·intro z hz
      rcases List.mem_append.1 hz with hz | hz
      ·exact hq2.out z (List.mem_of_mem_take hz)
      ·rcases List.mem_append.1 hz with hz | hz
       ·exact hsp.1 z hz
       ·rw [List.mem_singleton.1 hz]; exact hsp.2
     ·intro M hM
      exact last_run hil hp ho.out (by have:=hsm.out.1; have:=hsq.out.1; omega) hM
   have hno : (lastP ps at_).2 = false → (lastP ps at_).1 = []:=fun h => by
    unfold lastP lastS at h ⊢
    split
    ·rfl
    ·rename_i hk
     rw [if_neg hk] at h
     split
     ·rfl
     ·rename_i z hz
      rw [hz] at h
      dsimp only at h ⊢
      split
      ·rfl
      ·rename_i y hy
       rw [hy] at h
       cases h
   obtain ⟨R9,hR9⟩ : ∃ R9,lastP ps at_ = R9:=⟨_,rfl⟩
   rw [hR9] at hLa hfacts hno
   clear hR9
   obtain ⟨X,is⟩:=R9
   dsimp only at hLa hfacts hno
   replace hLa:=Aside0.mk hLa
   replace hfacts:=Aside0.mk hfacts
   replace hno:=Aside0.mk hno
   go_wp2_with (fail)
   refine (hLa.out _ (by repeat (first | with_reducible exact hw3 | refine Below.setCell ?_ (by have:=hw3.size; simp <;> omega) _ | refine Below.alloc ?_ (by have:=hw3.size; simp <;> omega) _ | refine Below.drew ?_))).mono ?_
   rintro e w4 ⟨B1,d1,rfl,gX1,hd1,hb4⟩
   have hs4 : Below w3.heap.size w3 w4:=two_steps (by repeat (first | exact Below.refl _ _ | refine Below.setCell ?_ (by simp <;> omega) _ | refine Below.alloc ?_ (by simp <;> omega) _ | refine Below.drew ?_)) hb4
   have hw4 : Below w.heap.size w w4:=hw3.trans (hs4.mono hw3.size)
   replace hd1:=Aside0.mk hd1
   replace gX1:=Aside0.mk gX1
   clear hb4
   cases is with
   | false =>
    obtain rfl:=hno.out rfl
    clear hfacts
    go_wp2
    go_ret
    exact ⟨rfl,(by repeat (first | with_reducible exact hw4 | refine Below.setCell ?_ (by have:=hw4.size; simp <;> omega) _ | refine Below.alloc ?_ (by have:=hw4.size; simp <;> omega) _ | refine Below.drew ?_))⟩
   | true =>
    obtain ⟨f1,f2,f3,f4,f5⟩:=hfacts.out rfl
    have c1 : decide ((0 : Int) ≤ at_) = true:=decide_eq_true f1
    have c2 : decide (at_ < (ps.length : Int)) = true:=decide_eq_true f2
    have c3 : ((X.length : Int) == (ps.length : Int)) = true:=by rw [f3]; simp
    replace f3:=Aside0.mk f3
    replace f4:=Aside0.mk f4
    replace f5:=Aside0.mk f5
    clear hfacts hno f1 f2
    obtain ⟨R,hRR⟩ : ∃ R,allE l ps = R:=⟨_,rfl⟩
    have hA:=L_at 4000 l A c ps P d w4 (Kd.C_below hr.out hw4) (Kd.C_below hps.out hw4) (small_bnd hsm.out.2) (by decide) (by have:=hsq.out.1; omega) hq2.out
    rw [hRR] at hA
    obtain ⟨M,E,Jx⟩:=R
    dsimp only at hA
    replace hA:=Aside0.mk hA
    replace hRR:=Aside0.mk hRR
    go_wp2_with (fail)
    refine (hA.out _ (Below.refl _ _)).mono ?_
    rintro e w5 ⟨S1,rfl,hb5,hS,hSn⟩
    have hs5 : Below w4.heap.size w4 w5:=two_steps (by repeat (first | exact Below.refl _ _ | refine Below.setCell ?_ (by simp <;> omega) _ | refine Below.alloc ?_ (by simp <;> omega) _ | refine Below.drew ?_)) hb5
    have hw5 : Below w.heap.size w w5:=hw4.trans (hs5.mono hw4.size)
    replace hS:=Aside0.mk hS
    replace hSn:=Aside0.mk hSn
    clear hb5
    have gX5:=Aside0.mk (Kd.C_below gX1.out hs5)
    have hq2a:=hq2
    have hqn : Aside0 (ps.length ≤ 60):=⟨hsq.out.1⟩
    by_cases hz : E = 0
    ·subst hz
     have hrun:=Aside0.mk (allE_zero hRR.out)
     have hres : Aside0 (allE l X = (M,0,0)):=⟨allE_run hrun.out.1 (f5.out M hrun.out.2)⟩
     have hMx:=Aside0.mk (run_known hsm.out.2 hq2a.out (by have:=hqn.out; omega) hrun.out.1 hrun.out.2)
     have hA2:=L_at 4000 l A c X B1 d1 w5 (Kd.C_below hr.out hw5) gX5.out (small_bnd hsm.out.2) (by decide) (by have:=hsq.out.1; have:=f3.out; omega) f4.out w5 (Below.refl _ _)
     rw [hres.out] at hA2
     dsimp only at hA2
     replace hA2:=Aside0.mk hA2
     obtain ⟨A4,c4,rfl,hl4,hC4⟩:=hS.out (by trivial)
     clear hS hSn
     replace hC4:=Aside0.mk hC4
     replace hl4:=Aside0.mk hl4
     go_wp2_with (fail)
     refine (hA2.out).mono ?_
     rintro e w6 ⟨S2,rfl,hb6,hT,-⟩
     have hs6 : Below w5.heap.size w5 w6:=two_steps (by repeat (first | exact Below.refl _ _ | refine Below.setCell ?_ (by simp <;> omega) _ | refine Below.alloc ?_ (by simp <;> omega) _ | refine Below.drew ?_)) hb6
     have hw6 : Below w.heap.size w w6:=hw5.trans (hs6.mono hw5.size)
     obtain ⟨A7,c7,rfl,hl7,hC7⟩:=hT (by trivial)
     clear hT
     replace hC7:=Aside0.mk hC7
     replace hl7:=Aside0.mk hl7
     have hC5:=Aside0.mk (Kd.C_below hC4.out hb6)
     clear hb6
     go_wp2_with (fail)
     refine ((sameRows_at M hMx.out A4 c4 A7 c7 w6 hC5.out hl4.out hC7.out hl7.out) _ (Below.refl _ _)).mono ?_
     rintro e w7 ⟨rfl,hb7⟩
     have hs7 : Below w6.heap.size w6 w7:=two_steps (by repeat (first | exact Below.refl _ _ | refine Below.setCell ?_ (by simp <;> omega) _ | refine Below.alloc ?_ (by simp <;> omega) _ | refine Below.drew ?_)) hb7
     have hw7 : Below w.heap.size w w7:=hw6.trans (hs7.mono hw6.size)
     clear hb7
     go_wp2
     go_ret
     exact ⟨rfl,(by repeat (first | with_reducible exact hw7 | refine Below.setCell ?_ (by have:=hw7.size; simp <;> omega) _ | refine Below.alloc ?_ (by have:=hw7.size; simp <;> omega) _ | refine Below.drew ?_))⟩
    ·skip
     have hne : (E != 0) = true:=by rw [bne_iff_ne]; exact hz
     have hne2 : (E == 0) = false:=by rw [beq_eq_false_iff_ne]; exact hz
     replace hz:=Aside0.mk hz
     have hA2:=L_at 4000 l A c X B1 d1 w5 (Kd.C_below hr.out hw5) gX5.out (small_bnd hsm.out.2) (by decide) (by have:=hsq.out.1; have:=f3.out; omega) f4.out w5 (Below.refl _ _)
     replace hA2:=Aside0.mk hA2
     obtain rfl:=hSn.out hz.out
     clear hS hSn
     go_wp2_with (fail)
     refine (hA2.out).mono ?_
     rintro e w6 ⟨S2,rfl,hb6,hT,hTn⟩
     have hs6 : Below w5.heap.size w5 w6:=two_steps (by repeat (first | exact Below.refl _ _ | refine Below.setCell ?_ (by simp <;> omega) _ | refine Below.alloc ?_ (by simp <;> omega) _ | refine Below.drew ?_)) hb6
     have hw6 : Below w.heap.size w w6:=hw5.trans (hs6.mono hw5.size)
     obtain ⟨A7,n7,c7,rfl⟩:=ans_row2 hT hTn
     clear hT hTn
     clear hb6
     go_wp2
     go_ret
     exact ⟨rfl,(by repeat (first | with_reducible exact hw6 | refine Below.setCell ?_ (by have:=hw6.size; simp <;> omega) _ | refine Below.alloc ?_ (by have:=hw6.size; simp <;> omega) _ | refine Below.drew ?_))⟩
end Go.Proofs.YthhohbidjhcjeaaGreatDoor.H
namespace Go.Proofs.YthhohbidjhcjeaaGreatDoor.Op
open Go.ChangeShapes Go.WideShapes Go.Deep Go.RowKit Go.Proofs.YthhohbidjhcjeaaGreatDoorW.PrintWords Go.Proofs.YthhohbidjhcjeaaGreatDoorW.PrintMore
def Opens {α : Type} (P : Program) (t : TypeId) (d : Kd α) (good : α → Prop) : Prop :=
 ∀ (H : Type) (enc : TypeId × Value → H) (w : World) (base : Nat) (spare : Nat → Bool) (held : Bool) (fuel : Nat) (cs : List Value) (x : DataW H × List MemPlace),
  DataW.trod enc P w base spare held fuel t cs = some x → (∀ n ∈ x.1.weights P t,n ≤ reachBytes) → ∃ a,d.K w a cs ∧ good a
theorem opens_int {P : Program} {t : TypeId} {k : IntKind} (ht : P.underlying t = some (.int k)) : Opens P t (Kd.int k) (fun n => (Lit.int k n).wf = true):=by
 intro H enc w base spare held fuel cs x h hw
 obtain ⟨n,rfl,rfl,hn⟩:=DataW.trod_int ht h
 exact ⟨n,rfl,hn⟩
theorem opens_string {P : Program} {t : TypeId} (ht : P.underlying t = some .string) : Opens P t Kd.string (fun s => s.size ≤ 140737488351232):=by
 intro H enc w base spare held fuel cs x h hw
 obtain ⟨s,rfl,rfl,hn⟩:=DataW.trod_string ht h
 refine ⟨s,rfl,?_⟩
 have h2 : s.data.toList.length ≤ 140737488351232:=hw s.data.toList.length (by simp [DataW.weights])
 simpa using h2
theorem weightsAll_mem {H : Type} {P : Program} {e : TypeId} : ∀ {ds : List (DataW H)} {d : DataW H},d ∈ ds → ∀ n ∈ d.weights P e,n ∈ DataW.weightsAll P e ds
 | d0 :: ds,d,hd,n,hn => by
  rcases List.mem_cons.1 hd with rfl | hd
  ·simp only [DataW.weightsAll,List.mem_append]
   exact .inl hn
  ·simp only [DataW.weightsAll,List.mem_append]
   exact .inr (weightsAll_mem hd n hn)
 | [],_,hd,_,_ => by simp at hd
theorem opens_slice {α : Type} {P : Program} {t e : TypeId} {d : Kd α} {g : α → Prop} (b : Nat) (ht : P.underlying t = some (.slice e)) (he : Opens P e d g) (hc : P.cellsOf e = d.sz) (hb : P.bytesOf e = b) :
  Opens P t (Kd.slice e d) (fun xs => xs.length ≤ maxLen ∧ xs.length * b ≤ 140737488351232 ∧ ∀ x ∈ xs,g x):=by
 intro H enc w base spare held fuel cs x h hw
 rcases open_slice ht h with ⟨rfl,rfl⟩ | ⟨a,len,cap,m,n,D,Pl,rfl,_,hl,hm,hmm,rfl,hx⟩
 ·exact ⟨[],⟨none,0,rfl,Nat.le_refl _,Kd.C_nil d w⟩,Nat.zero_le _,by simp,by simp⟩
 ·have hlm : len ≤ m:=by rw [hmm]; split <;> omega
  have hwt : ((List.range len).map D).length * P.bytesOf e + ((List.range (m - len)).map fun j => D (len + j)).length * P.bytesOf e ≤ 140737488351232:=by
   have:=hw ((((List.range len).map D).length + ((List.range (m - len)).map fun j => D (len + j)).length) * P.bytesOf e) (by simp [DataW.weights,ht])
   rw [← Nat.add_mul]
   exact this
  have key : ∀ i,i < len → ∃ p : α,∃ cs',w.cells? base (a.add (i * P.cellsOf e)) (P.cellsOf e) = some cs' ∧ d.K w p cs' ∧ g p:=by
   intro i hi
   obtain ⟨cs',h1,h2⟩:=hx i (by omega)
   obtain ⟨p,hp,hg⟩:=he H enc w base spare held n cs' _ h2 (fun k hk => hw k (by
    simp only [DataW.weights,ht]
    refine List.mem_cons_of_mem _ (List.mem_append_left _ (weightsAll_mem (d:=D i) ?_ k hk))
    exact List.mem_map.2 ⟨i,List.mem_range.2 hi,rfl⟩))
   exact ⟨p,cs',h1,hp,hg⟩
  obtain ⟨f,hf⟩ : ∃ f : Nat → Option α,∀ i,i < len → ∃ p,f i = some p ∧ ∃ cs',w.cells? base (a.add (i * P.cellsOf e)) (P.cellsOf e) = some cs' ∧ d.K w p cs' ∧ g p:=by
   refine ⟨fun i => if h : i < len then some (key i h).choose else none,fun i hi => ⟨_,dif_pos hi,(key i hi).choose_spec⟩⟩
  have hlen : ((List.range len).filterMap f).length = len ∧ ∀ j p,((List.range len).filterMap f)[j]? = some p → j < len ∧ f j = some p:=by
   clear hwt hx hw h hl key hlm hmm
   induction len with
   | zero => simp
   | succ len ih =>
    obtain ⟨h1,h2⟩:=ih (fun i hi => hf i (by omega))
    obtain ⟨p,hp,_⟩:=hf len (by omega)
    rw [List.range_succ,List.filterMap_append]
    have e1 : List.filterMap f [len] = [p]:=by simp [hp]
    rw [e1]
    refine ⟨by simp [h1],fun j q hj => ?_⟩
    by_cases hjl : j < ((List.range len).filterMap f).length
    ·rw [List.getElem?_append_left hjl] at hj
     obtain ⟨h3,h4⟩:=h2 j q hj
     exact ⟨by omega,h4⟩
    ·rw [List.getElem?_append_right (by omega)] at hj
     have hj0 : j = len:=by
      have:=(List.getElem?_eq_some_iff.1 hj).1
      simp at this
      omega
     subst hj0
     rw [h1,Nat.sub_self] at hj
     simp only [List.getElem?_cons_zero,Option.some.injEq] at hj
     subst hj
     exact ⟨by omega,hp⟩
  obtain ⟨hlen,hget⟩:=hlen
  refine ⟨(List.range len).filterMap f,⟨some a,cap,by rw [hlen],by rw [hlen]; exact hl,?_⟩,?_,?_,?_⟩
  ·refine ⟨rfl,by rw [hlen]; have : maxLen = 9223372036854775807:=rfl; omega,fun _ => ⟨a,rfl,fun j p hj => ?_⟩⟩
   obtain ⟨hjl,hfj⟩:=hget j p hj
   obtain ⟨p',hp',cs',h1,h2,_⟩:=hf j hjl
   obtain rfl : p' = p:=Option.some.inj (hp'.symm.trans hfj)
   obtain ⟨_,hcl,hat⟩:=World.cells?_some h1
   refine ⟨cs',d.K_len h2,h2,fun i u hu => ?_⟩
   have hi : i < P.cellsOf e:=by
    have:=(List.getElem?_eq_some_iff.1 hu).1
    omega
   have h3:=hat i hi
   rw [hu,Go.Deep.add_add,hc] at h3
   exact h3
  ·rw [hlen]; exact Nat.le_trans hl hm
  ·rw [hlen,← hb]
   have : len * P.bytesOf e ≤ ((List.range len).map D).length * P.bytesOf e:=by simp
   omega
  ·intro p hp
   obtain ⟨j,hj⟩:=List.getElem?_of_mem hp
   obtain ⟨hjl,hfj⟩:=hget j p hj
   obtain ⟨p',hp',cs',h1,_,h2⟩:=hf j hjl
   obtain rfl : p' = p:=Option.some.inj (hp'.symm.trans hfj)
   exact h2

def OpensAt {α : Type} (P : Program) (fs : List Field) (off : Nat) (d : Kd α) (good : α → Prop) : Prop :=
 ∀ (H : Type) (enc : TypeId × Value → H) (w : World) (base : Nat) (spare : Nat → Bool) (held : Bool) (n : Nat) (cs : List Value) (xs : List (DataW H × List MemPlace)),
  (∀ (i : Nat) (f : Field),fs[i]? = some f → DataW.trod enc P w base spare held n f.type ((cs.drop f.offset).take (P.cellsOf f.type)) = xs[i]?) → xs.length = fs.length →
  (∀ n ∈ DataW.weightsEach P (fs.map (·.type)) (xs.map (·.1)),n ≤ reachBytes) → cs.length = off + d.sz → ∃ a,d.K w a (cs.drop off) ∧ good a
theorem opensAt_one {α : Type} {P : Program} {f : Field} {off : Nat} {d : Kd α} {g : α → Prop} (he : Opens P f.type d g) (ho : f.offset = off) (hc : P.cellsOf f.type = d.sz) : OpensAt P [f] off d g:=by
 intro H enc w base spare held n cs xs hx hl hw hcs
 obtain ⟨x,rfl⟩ : ∃ x,xs = [x]:=by
  match xs,hl with
  | [x],_ => exact ⟨x,rfl⟩
 have h0:=hx 0 f rfl
 rw [ho,hc,List.take_of_length_le (by simp; omega)] at h0
 exact he H enc w base spare held n _ x h0 (fun k hk => hw k (by simp [DataW.weightsEach,hk]))
theorem opensAt_cons {α β : Type} {P : Program} {f : Field} {fs : List Field} {off : Nat} {d : Kd α} {d' : Kd β} {g : α → Prop} {g' : β → Prop} (he : Opens P f.type d g) (ho : f.offset = off) (hc : P.cellsOf f.type = d.sz)
  (hr : OpensAt P fs (off + d.sz) d' g') : OpensAt P (f :: fs) off (Kd.pair d d') (fun x => g x.1 ∧ g' x.2):=by
 intro H enc w base spare held n cs xs hx hl hw hcs
 obtain ⟨x,xs,rfl⟩ : ∃ x xs',xs = x :: xs':=by
  match xs,hl with
  | x :: xs,_ => exact ⟨x,xs,rfl⟩
 have h0:=hx 0 f rfl
 rw [ho,hc] at h0
 have hsz : (Kd.pair d d').sz = d.sz + d'.sz:=rfl
 obtain ⟨a,ha,hga⟩:=he H enc w base spare held n _ x h0 (fun k hk => hw k (by simp [DataW.weightsEach,hk]))
 obtain ⟨b,hb,hgb⟩:=hr H enc w base spare held n cs xs (fun i q hq => hx (i + 1) q hq) (by simpa using hl) (fun k hk => hw k (by
  simp only [List.map_cons,DataW.weightsEach,List.mem_append]
  exact .inr hk)) (by omega)
 refine ⟨(a,b),⟨(cs.drop off).take d.sz,cs.drop (off + d.sz),?_,ha,hb⟩,hga,hgb⟩
 rw [← List.drop_drop,List.take_append_drop]
theorem opens_struct {α : Type} {P : Program} {t : TypeId} {fs : Array Field} {d : Kd α} {g : α → Prop} (ht : P.underlying t = some (.struct fs)) (hc : P.cellsOf t = d.sz) (hr : OpensAt P fs.toList 0 d g) : Opens P t d g:=by
 intro H enc w base spare held fuel cs x h hw
 obtain ⟨xs,n,rfl,rfl,hl,hxl,hx⟩:=DataW.trod_struct ht h
 have:=hr H enc w base spare held n cs xs (fun i f hf => hx i f (by simpa using hf)) (by simpa using hxl) (fun k hk => hw k (by simpa [DataW.weights,ht] using hk)) (by omega)
 simpa using this
theorem opens_iso {α β : Type} {P : Program} {t : TypeId} {d : Kd α} {g : α → Prop} (f : β → α) (inv : α → β) (hi : ∀ a,f (inv a) = a) (h : Opens P t d g) : Opens P t (Kd.iso d f) (fun b => g (f b)):=by
 intro H enc w base spare held fuel cs x h' hw
 obtain ⟨a,ha,hg⟩:=h H enc w base spare held fuel cs x h' hw
 exact ⟨inv a,by show d.K w (f (inv a)) cs; rw [hi]; exact ha,by show g (f (inv a)); rw [hi]; exact hg⟩
theorem opens_imp {α : Type} {P : Program} {t : TypeId} {d : Kd α} {g g' : α → Prop} (h : Opens P t d g) (hi : ∀ a,g a → g' a) : Opens P t d g':=by
 intro H enc w base spare held fuel cs x h' hw
 obtain ⟨a,ha,hg⟩:=h H enc w base spare held fuel cs x h' hw
 exact ⟨a,ha,hi a hg⟩
theorem opened {α : Type} {P : Program} {t : TypeId} {d : Kd α} {g : α → Prop} (h : Opens P t d g) {H : Type} {enc : TypeId × Value → H} {w : World} {base : Nat} {spare : Nat → Bool} {held : Bool} {v : Value} {x : DataW H} {ps : List MemPlace}
  {ts : List TypeId} {ds : List (DataW H)} {j : Nat} (hT : DataW.Trod enc P w base spare held t v x ps) (hs : (DataW.weightsEach P ts ds).all (· ≤ reachBytes) = true) (ht : ts[j]? = some t) (hd : ds[j]? = some x) : ∃ a,d.K w a v.cells.toList ∧ g a:=by
 obtain ⟨fuel,hf⟩:=hT
 exact h H enc w base spare held fuel _ (x,ps) hf (fun n hn => by simpa using List.all_eq_true.1 hs _ (DataW.weights_mem_each ht hd n hn))
end Go.Proofs.YthhohbidjhcjeaaGreatDoor.Op
namespace Go.Proofs.YthhohbidjhcjeaaGreatDoor.Od
open Go.ChangeShapes Go.WideShapes Go.ChangeAt Go.RowKit Go.Proofs.YthhohbidjhcjeaaGreatDoorW.PrintWords Go.Proofs.YthhohbidjhcjeaaGreatDoorW.PrintMore Go.Proofs.YthhohbidjhcjeaaGreatDoor.Q Go.Proofs.YthhohbidjhcjeaaGreatDoor.Op Go.Proofs.YthhohbidjhcjeaaGreatDoor.Pl
theorem own : ownKnob Tryz.prog.godebug = none:=by kernel_rfl
theorem laidOut : laidOutB Tryz.prog = true:=by kernel_rfl
def laidTabs : List (String × DataW Unit) := [("unicode/utf8.acceptRanges", Rows.laid_unicode_utf8_acceptRanges), ("unicode/utf8.first", Rows.laid_unicode_utf8_first)]
theorem o9 : Opens Tryz.prog 9 Kd.string (fun s => s.size ≤ 140737488351232):=opens_string (P:=Tryz.prog) (by kernel_rfl)
theorem o3 : Opens Tryz.prog 3 (Kd.int .i64) (fun n => (Lit.int .i64 n).wf = true):=opens_int (P:=Tryz.prog) (by kernel_rfl)
theorem o5 : Opens Tryz.prog 5 (Kd.int .u8) (fun n => (Lit.int .u8 n).wf = true):=opens_int (P:=Tryz.prog) (by kernel_rfl)
theorem o23 : Opens Tryz.prog 23 (Kd.slice 9 Kd.string) (fun xs => xs.length ≤ maxLen ∧ xs.length * 16 ≤ 140737488351232 ∧ ∀ x ∈ xs,x.size ≤ 140737488351232):=opens_slice (P:=Tryz.prog) 16 (by kernel_rfl) o9 (by kernel_rfl) (by kernel_rfl)
theorem o25 : Opens Tryz.prog 25 k25 Okp:=by
 refine opens_imp (opens_iso (fun x : S25 => (x.f0,x.f1,x.f2,x.f3,x.f4,x.f5,x.f6)) (fun x => ⟨x.1,x.2.1,x.2.2.1,x.2.2.2.1,x.2.2.2.2.1,x.2.2.2.2.2.1,x.2.2.2.2.2.2⟩) (fun _ => rfl) (opens_struct (P:=Tryz.prog) Tryz.underlying25 (by kernel_rfl)
  (opensAt_cons o3 rfl (by kernel_rfl) (opensAt_cons o9 rfl (by kernel_rfl) (opensAt_cons o9 rfl (by kernel_rfl) (opensAt_cons o9 rfl (by kernel_rfl) (opensAt_cons o3 rfl (by kernel_rfl) (opensAt_cons o23 rfl (by kernel_rfl) (opensAt_one o23 rfl (by kernel_rfl)))))))))) ?_
 rintro a ⟨_,h1,h2,h3,_,⟨_,h5,_⟩,⟨_,h6,_⟩⟩
 dsimp only at h1 h2 h3 h5 h6
 exact ⟨⟨by omega,by omega⟩,by omega,by omega,by omega⟩
theorem o34 : Opens Tryz.prog 34 (Kd.slice 25 k25) (fun xs => xs.length ≤ maxLen ∧ xs.length * 112 ≤ 140737488351232 ∧ ∀ x ∈ xs,Okp x):=opens_slice (P:=Tryz.prog) 112 (by kernel_rfl) o25 (by kernel_rfl) (by kernel_rfl)
structure Oke (x : S41) : Prop where
 n : x.f2.length ≤ 140737488355328
 p : x.f0.size ≤ 140737488355328
 d : x.f3.size ≤ 140737488355328
 t : ∀ s ∈ x.f2,s.size ≤ 140737488355328
theorem o41 : Opens Tryz.prog 41 k41 Oke:=by
 refine opens_imp (opens_iso (fun x : S41 => (x.f0,x.f1,x.f2,x.f3)) (fun x => ⟨x.1,x.2.1,x.2.2.1,x.2.2.2⟩) (fun _ => rfl) (opens_struct (P:=Tryz.prog) Tryz.underlying41 (by kernel_rfl)
  (opensAt_cons o9 rfl (by kernel_rfl) (opensAt_cons o3 rfl (by kernel_rfl) (opensAt_cons o23 rfl (by kernel_rfl) (opensAt_one o9 rfl (by kernel_rfl))))))) ?_
 rintro a ⟨h0,_,⟨_,h2,h2t⟩,h3⟩
 dsimp only at h0 h2 h2t h3
 exact ⟨by omega,by omega,by omega,fun s hs => Nat.le_trans (h2t s hs) (by decide)⟩
theorem o22 : Opens Tryz.prog 22 (Kd.slice 41 k41) (fun xs => xs.length ≤ maxLen ∧ xs.length * 64 ≤ 140737488351232 ∧ ∀ x ∈ xs,Oke x):=opens_slice (P:=Tryz.prog) 64 (by kernel_rfl) o41 (by kernel_rfl) (by kernel_rfl)
open Go.RowKit
set_option maxRecDepth 100000 in
set_option maxHeartbeats 4000000 in
theorem heads : Tryz.prog.mayEnter = true ∧ Tryz.prog.liftsFinal = Rows.invertUndoesRow.lifted ∧ Tryz.prog.make = some Rows.invertUndoesRow.make ∧ Tryz.prog.mainIs = some (true, "b2c3b2d2b50221d5631762a848752805bff427337fd1c8fab364110e20b5edb9".toList) := by
 have h : Tryz.prog.initOrder = String.ofList _:=rfl
 refine ⟨?_,?_,?_,?_⟩
 ·unfold Program.mayEnter
  rw [h,String.toList_ofList]
  decide +kernel
 ·unfold Program.liftsFinal Program.headLifts
  rw [h,String.toList_ofList]
  decide +kernel
 ·unfold Program.make
  rw [h,String.toList_ofList]
  decide +kernel
 ·unfold Program.mainIs
  rw [h,String.toList_ofList]
  decide +kernel
end Go.Proofs.YthhohbidjhcjeaaGreatDoor.Od
