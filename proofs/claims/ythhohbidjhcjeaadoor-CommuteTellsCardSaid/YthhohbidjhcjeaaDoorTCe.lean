/- What the reference's Commute calls, over its four boxes. -/
import Derived.Test.YthhohbidjhcjeaaDoorTPf
import Derived.Test.YthhohbidjhcjeaaDoorTPe
import Derived.Test.YthhohbidjhcjeaaDoorTQx10
namespace Go.Proofs.YthhohbidjhcjeaaDoor.H
open Go.RowKit Go.Proofs.YthhohbidjhcjeaaDoorW.PrintWords Go.Proofs.YthhohbidjhcjeaaDoorW.PrintLast Go.Proofs.YthhohbidjhcjeaaDoorW.PrintMore
open Go.Proofs.YthhohbidjhcjeaaDoor.Q Go.Proofs.YthhohbidjhcjeaaDoor.Pl

theorem rright_at (x : S24) (A5 : Option Addr) (c5 : Nat) (A6 : Option Addr) (c6 : Nat) (w : World) (hx : Okq x) (rx : Rd w x A5 c5 A6 c6) :
  Calls Tryd.prog 54 #[.agg (cs x A5 c5 A6 c6)] w fun e w' => e = .returned (.bool (primB x)) ∧ Below w.heap.size w w':=by
 obtain ⟨k,hk⟩:=(refPrim x hx).rounds
 exact counterpaneref08_Right.calls k _ _ _ _ _ _ _ _ _ _ _ _ w rx.g5 rx.l5 rx.g6 rx.l6 hk
theorem Rd.st {w W : World} {cp cq : Array Value} {x : S24} {A5 : Option Addr} {c5 : Nat} {A6 : Option Addr} {c6 : Nat} (h : Rd w x A5 c5 A6 c6) (hst : St w cp cq W) : Rd W x A5 c5 A6 c6 :=
 ⟨Kd.C_below h.g5 hst.below,h.l5,Kd.C_below h.g6 hst.below,h.l6⟩
theorem rright_st (x : S24) (A5 : Option Addr) (c5 : Nat) (A6 : Option Addr) (c6 : Nat) (w W : World) (cp cq : Array Value) (hx : Okq x) (hr : Rd w x A5 c5 A6 c6) (h : St w cp cq W) :
  Calls Tryd.prog 54 #[.agg (cs x A5 c5 A6 c6)] W fun e W' => e = .returned (.bool (primB x)) ∧ St w cp cq W' :=
 (rright_at x A5 c5 A6 c6 W hx (hr.st h)).mono (fun _ _ ⟨he,hb⟩ => ⟨he,h.later hb⟩)
theorem apR_f (m : S24) (s : ByteArray) : counterpaneref10_apart.f m.f0 m.f1 m.f2 m.f3 m.f4 m.f5 m.f6 s = some (apR m s):=by
 unfold counterpaneref10_apart.f apR
 rw [refApart_f,refApart_f]
 simp only [Option.bind_some]
 split <;> rfl
theorem rapart_st (m : S24) (s : ByteArray) (A5 : Option Addr) (c5 : Nat) (A6 : Option Addr) (c6 : Nat) (w W : World) (cp cq : Array Value) (hr : Rd w m A5 c5 A6 c6) (h : St w cp cq W) :
  Calls Tryd.prog 56 #[.agg (cs m A5 c5 A6 c6),.string s] W fun e W' => e = .returned (.bool (apR m s)) ∧ St w cp cq W' :=
 (counterpaneref10_apart.calls _ _ _ _ _ _ _ _ _ _ _ _ _ W (hr.st h).g5 hr.l5 (hr.st h).g6 hr.l6 (apR_f m s)).mono (fun _ _ ⟨he,hb⟩ => ⟨he,h.later hb⟩)
/-- Is it a change? -/
def chB (x : S24) : Bool:=if x.f0 ≥ 7 then decide (x.f0 ≤ 9) else false
theorem chB_yes {x : S24} (h : chB x = true) : 7 ≤ x.f0 ∧ x.f0 ≤ 9:=by
 unfold chB at h
 split at h
 ·exact ⟨by omega,of_decide_eq_true h⟩
 ·cases h
theorem chB_no {x : S24} (h : chB x = false) : ¬ (7 ≤ x.f0 ∧ x.f0 ≤ 9):=by
 unfold chB at h
 split at h
 ·have:=of_decide_eq_false h
  omega
 ·omega
theorem chB_ten {x : S24} (h : x.f0 = 10) : chB x = false:=by
 unfold chB
 rw [if_pos (by omega)]
 exact decide_eq_false (by omega)
theorem rchange_st (x : S24) (A5 : Option Addr) (c5 : Nat) (A6 : Option Addr) (c6 : Nat) (w W : World) (cp cq : Array Value) (hr : Rd w x A5 c5 A6 c6) (h : St w cp cq W) :
  Calls Tryd.prog 57 #[.agg (cs x A5 c5 A6 c6)] W fun e W' => e = .returned (.bool (chB x)) ∧ St w cp cq W':=by
 have hk : counterpaneref10_change.f x.f0 x.f1 x.f2 x.f3 x.f4 x.f5 x.f6 = some (chB x):=by
  unfold counterpaneref10_change.f chB
  split <;> rfl
 exact (counterpaneref10_change.calls _ _ _ _ _ _ _ _ _ _ _ _ W (hr.st h).g5 hr.l5 (hr.st h).g6 hr.l6 hk).mono (fun _ _ ⟨he,hb⟩ => ⟨he,h.later hb⟩)
/-- Is it an addition? -/
def adB (x : S24) : Bool:=decide (x.f0 ≤ 6)
theorem raddition_st (x : S24) (A5 : Option Addr) (c5 : Nat) (A6 : Option Addr) (c6 : Nat) (w W : World) (cp cq : Array Value) (hr : Rd w x A5 c5 A6 c6) (h : St w cp cq W) :
  Calls Tryd.prog 60 #[.agg (cs x A5 c5 A6 c6)] W fun e W' => e = .returned (.bool (adB x)) ∧ St w cp cq W' :=
 (counterpaneref10_addition.calls _ _ _ _ _ _ _ _ _ _ _ _ W (hr.st h).g5 hr.l5 (hr.st h).g6 hr.l6 rfl).mono (fun _ _ ⟨he,hb⟩ => ⟨he,h.later hb⟩)
theorem rmoved_f (s fr dst : ByteArray) (hs : dst.size + s.size ≤ 140737488355328) : counterpaneref04_Moved.f s fr dst = some ((movedS s fr dst).1,(movedS s fr dst).2):=by
 unfold counterpaneref04_Moved.f movedS
 rw [refWithin_f]
 simp only [Option.bind_some]
 cases h : withinB s fr with
 | false => rfl
 | true =>
  have hle:=within_le h
  have hx : (s.extract fr.size s.size).size ≤ s.size:=by
   rw [ByteArray.size_extract]
   omega
  rw [if_pos rfl,if_pos (by omega),if_pos (by omega),if_pos rfl,Int.toNat_natCast,if_pos (by omega)]
theorem rmoved_st (s fr dst : ByteArray) (w W : World) (cp cq : Array Value) (hs : dst.size + s.size ≤ 140737488355328) (h : St w cp cq W) :
  Calls Tryd.prog 58 #[.string s,.string fr,.string dst] W fun e W' => e = .returned (.tuple #[.string (movedS s fr dst).1,.bool (movedS s fr dst).2]) ∧ St w cp cq W' :=
 (counterpaneref04_Moved.calls _ _ _ _ _ W (rmoved_f s fr dst hs)).mono (fun _ _ ⟨he,hb⟩ => ⟨he,h.later hb.below⟩)
theorem rwithin_st (a b : ByteArray) (w W : World) (cp cq : Array Value) (h : St w cp cq W) :
  Calls Tryd.prog 59 #[.string a,.string b] W fun e W' => e = .returned (.bool (withinB a b)) ∧ St w cp cq W' :=
 (counterpaneref04_Within.calls _ _ _ W (refWithin_f a b)).mono (fun _ _ ⟨he,hb⟩ => ⟨he,h.later hb.below⟩)
theorem rapart2_st (a b : ByteArray) (w W : World) (cp cq : Array Value) (h : St w cp cq W) :
  Calls Tryd.prog 28 #[.string a,.string b] W fun e W' => e = .returned (.bool (apartB a b)) ∧ St w cp cq W' :=
 (counterpaneref04_Apart.calls _ _ _ W (refApart_f a b)).mono (fun _ _ ⟨he,hb⟩ => ⟨he,h.later hb.below⟩)
theorem St.alloc {w W : World} {cp cq : Array Value} (h : St w cp cq W) (o : Obj) : St w cp cq (W.alloc o):=h.later (below_alloc (Below.refl _ _) o)
theorem St.setq {w W : World} {cp cq : Array Value} (h : St w cp cq W) (hc : cq.size = 7) (v0 v1 v2 v3 v4 v5 v6 : Value) :
  St w cp #[v0,v1,v2,v3,v4,v5,v6] (((((((W.setCell ⟨w.heap.size + 1,0,none⟩ v0).setCell ⟨w.heap.size + 1,1,none⟩ v1).setCell ⟨w.heap.size + 1,2,none⟩ v2).setCell ⟨w.heap.size + 1,3,none⟩ v3).setCell ⟨w.heap.size + 1,4,none⟩ v4).setCell ⟨w.heap.size + 1,5,none⟩ v5).setCell ⟨w.heap.size + 1,6,none⟩ v6) :=
 ⟨(keep7 (by omega) _ _ _ _ _ _ _).trans h.p,set7 h.q hc _ _ _ _ _ _ _,(keep7 (by omega) _ _ _ _ _ _ _).trans h.x,(keep7 (by omega) _ _ _ _ _ _ _).trans h.y,below7 h.below (by omega) _ _ _ _ _ _ _⟩
theorem St.setp {w W : World} {cp cq : Array Value} (h : St w cp cq W) (hc : cp.size = 7) (v0 v1 v2 v3 v4 v5 v6 : Value) :
  St w #[v0,v1,v2,v3,v4,v5,v6] cq (((((((W.setCell ⟨w.heap.size,0,none⟩ v0).setCell ⟨w.heap.size,1,none⟩ v1).setCell ⟨w.heap.size,2,none⟩ v2).setCell ⟨w.heap.size,3,none⟩ v3).setCell ⟨w.heap.size,4,none⟩ v4).setCell ⟨w.heap.size,5,none⟩ v5).setCell ⟨w.heap.size,6,none⟩ v6) :=
 ⟨set7 h.p hc _ _ _ _ _ _ _,(keep7 (by omega) _ _ _ _ _ _ _).trans h.q,(keep7 (by omega) _ _ _ _ _ _ _).trans h.x,(keep7 (by omega) _ _ _ _ _ _ _).trans h.y,below7 h.below (by omega) _ _ _ _ _ _ _⟩
theorem St.setq1 {w W : World} {cp : Array Value} {v0 v1 v2 v3 v4 v5 v6 : Value} (h : St w cp #[v0,v1,v2,v3,v4,v5,v6] W) (v : Value) : St w cp #[v0,v,v2,v3,v4,v5,v6] (W.setCell ⟨w.heap.size + 1,1,none⟩ v) :=
 ⟨blk_far h.p (by show w.heap.size ≠ w.heap.size + 1; omega) _,blk_set h.q 1 v,blk_far h.x (by show w.heap.size + 1 + 1 ≠ w.heap.size + 1; omega) _,blk_far h.y (by show w.heap.size + 1 + 1 + 1 ≠ w.heap.size + 1; omega) _,h.below.setCell (by simp) _⟩
theorem St.setp1 {w W : World} {cq : Array Value} {v0 v1 v2 v3 v4 v5 v6 : Value} (h : St w #[v0,v1,v2,v3,v4,v5,v6] cq W) (v : Value) : St w #[v0,v,v2,v3,v4,v5,v6] cq (W.setCell ⟨w.heap.size,1,none⟩ v) :=
 ⟨blk_set h.p 1 v,blk_far h.q (by show w.heap.size + 1 ≠ w.heap.size; omega) _,blk_far h.x (by show w.heap.size + 1 + 1 ≠ w.heap.size; omega) _,blk_far h.y (by show w.heap.size + 1 + 1 + 1 ≠ w.heap.size; omega) _,h.below.setCell (by simp) _⟩
theorem fdeep2 {W : World} {g : Nat} {c : Array Value} (h : W.heap[g]? = some (.cells c 24 (0,0))) : (∀ o o',((W.alloc o).alloc o').frozen? ⟨g,0,none⟩ = false) ∧ (∀ o o',((W.alloc o).alloc o').frozen? ⟨g,1,none⟩ = false) ∧ (∀ o o',((W.alloc o).alloc o').frozen? ⟨g,2,none⟩ = false) ∧ (∀ o o',((W.alloc o).alloc o').frozen? ⟨g,3,none⟩ = false) ∧ (∀ o o',((W.alloc o).alloc o').frozen? ⟨g,4,none⟩ = false) ∧ (∀ o o',((W.alloc o).alloc o').frozen? ⟨g,5,none⟩ = false) ∧ (∀ o o',((W.alloc o).alloc o').frozen? ⟨g,6,none⟩ = false) :=
 ⟨fun o o' => blk_frozen (blk_alloc (blk_alloc h o) o') 0,fun o o' => blk_frozen (blk_alloc (blk_alloc h o) o') 1,fun o o' => blk_frozen (blk_alloc (blk_alloc h o) o') 2,fun o o' => blk_frozen (blk_alloc (blk_alloc h o) o') 3,fun o o' => blk_frozen (blk_alloc (blk_alloc h o) o') 4,fun o o' => blk_frozen (blk_alloc (blk_alloc h o) o') 5,fun o o' => blk_frozen (blk_alloc (blk_alloc h o) o') 6⟩
end Go.Proofs.YthhohbidjhcjeaaDoor.H
