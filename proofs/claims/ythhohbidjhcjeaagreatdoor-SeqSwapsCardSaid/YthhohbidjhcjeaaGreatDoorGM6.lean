/- Contracts of the reference's lines: two changes of one text the other way about. Contracts of the rules by which two patches in boxes are commuted. Contracts of path.Moved and of the rules that carry a path. The walk of commute.Commute, whatever the rule is that it takes. -/
import Derived.Test.YthhohbidjhcjeaaGreatDoorGM4
import Derived.Test.YthhohbidjhcjeaaGreatDoorGM5
import Derived.Test.YthhohbidjhcjeaaGreatDoorGM1
import Derived.WalkKit
import Derived.Test.YthhohbidjhcjeaaGreatDoorGM2
import Derived.Laws.Strings3
import Derived.Laws.EntriesVeiled
import Derived.Test.YthhohbidjhcjeaaGreatDoorGM3
namespace Go.Proofs.YthhohbidjhcjeaaGreatDoor.H
open Go.RowKit Go.Proofs.YthhohbidjhcjeaaGreatDoorW.PrintWords Go.Proofs.YthhohbidjhcjeaaGreatDoorW.PrintLast Go.Proofs.YthhohbidjhcjeaaGreatDoorW.PrintMore
open Go.Proofs.YthhohbidjhcjeaaGreatDoor.Q
abbrev cs (x : S25) (A5 : Option Addr) (c5 : Nat) (A6 : Option Addr) (c6 : Nat) : Array Value:=#[.int .i64 x.f0,.string x.f1,.string x.f2,.string x.f3,.int .i64 x.f4,.slice A5 x.f5.length c5,.slice A6 x.f6.length c6]
open Go.Proofs.YthhohbidjhcjeaaGreatDoor.Q Go.Proofs.YthhohbidjhcjeaaGreatDoor.Pl
set_option maxHeartbeats 2000000 in
set_option maxRecDepth 100000 in
theorem beside_calls (p q : S25) (A5 : Option Addr) (c5 : Nat) (A6 : Option Addr) (c6 : Nat) (B5 : Option Addr) (d5 : Nat) (B6 : Option Addr) (d6 : Nat) (gp gq : Nat) (w : World)
  (hp : w.heap[gp]? = some (.cells #[.int .i64 p.f0,.string p.f1,.string p.f2,.string p.f3,.int .i64 p.f4,.slice A5 p.f5.length c5,.slice A6 p.f6.length c6] 25 (0,0))) (hq : w.heap[gq]? = some (.cells #[.int .i64 q.f0,.string q.f1,.string q.f2,.string q.f3,.int .i64 q.f4,.slice B5 q.f5.length d5,.slice B6 q.f6.length d6] 25 (0,0))) :
  Calls Tryz.prog 120 #[.pointer (some ⟨gp,0,none⟩),.pointer (some ⟨gq,0,none⟩)] w fun e w' => e = .returned (.bool (p.f1.toList != q.f1.toList)) ∧ Below w.heap.size w w':=by
 have pc0 : w.cell? ⟨gp,0,none⟩ = some (.int .i64 p.f0):=(blk_cell hp 0).trans rfl
 have pf0:=blk_frozen hp 0
 have pc1 : w.cell? ⟨gp,1,none⟩ = some (.string p.f1):=(blk_cell hp 1).trans rfl
 have pf1:=blk_frozen hp 1
 have pc2 : w.cell? ⟨gp,2,none⟩ = some (.string p.f2):=(blk_cell hp 2).trans rfl
 have pf2:=blk_frozen hp 2
 have pc3 : w.cell? ⟨gp,3,none⟩ = some (.string p.f3):=(blk_cell hp 3).trans rfl
 have pf3:=blk_frozen hp 3
 have pc4 : w.cell? ⟨gp,4,none⟩ = some (.int .i64 p.f4):=(blk_cell hp 4).trans rfl
 have pf4:=blk_frozen hp 4
 have pc5 : w.cell? ⟨gp,5,none⟩ = some (.slice A5 p.f5.length c5):=(blk_cell hp 5).trans rfl
 have pf5:=blk_frozen hp 5
 have pc6 : w.cell? ⟨gp,6,none⟩ = some (.slice A6 p.f6.length c6):=(blk_cell hp 6).trans rfl
 have pf6:=blk_frozen hp 6
 have qc0 : w.cell? ⟨gq,0,none⟩ = some (.int .i64 q.f0):=(blk_cell hq 0).trans rfl
 have qf0:=blk_frozen hq 0
 have qc1 : w.cell? ⟨gq,1,none⟩ = some (.string q.f1):=(blk_cell hq 1).trans rfl
 have qf1:=blk_frozen hq 1
 have qc2 : w.cell? ⟨gq,2,none⟩ = some (.string q.f2):=(blk_cell hq 2).trans rfl
 have qf2:=blk_frozen hq 2
 have qc3 : w.cell? ⟨gq,3,none⟩ = some (.string q.f3):=(blk_cell hq 3).trans rfl
 have qf3:=blk_frozen hq 3
 have qc4 : w.cell? ⟨gq,4,none⟩ = some (.int .i64 q.f4):=(blk_cell hq 4).trans rfl
 have qf4:=blk_frozen hq 4
 have qc5 : w.cell? ⟨gq,5,none⟩ = some (.slice B5 q.f5.length d5):=(blk_cell hq 5).trans rfl
 have qf5:=blk_frozen hq 5
 have qc6 : w.cell? ⟨gq,6,none⟩ = some (.slice B6 q.f6.length d6):=(blk_cell hq 6).trans rfl
 have qf6:=blk_frozen hq 6
 go_enter Tryz.func120,Tryz.ntmps120
 go_wp2
 all_goals go_region
 all_goals go_wp2
 all_goals go_ret
 all_goals exact ⟨rfl,by repeat (first | exact Below.refl _ _ | refine Below.drew ?_)⟩
theorem texts_read {W : World} {g : Nat} {l : List ByteArray} (h : W.heap[g]? = some (.cells (l.map Value.string).toArray 9 (0,0))) (hl : l.length ≤ 9223372036854775807) : Kd.C Kd.string W (some ⟨g,0,none⟩) l.length l:=by
 refine ⟨rfl,hl,fun _ => ⟨_,rfl,fun j x hj => ⟨[.string x],rfl,rfl,fun i u hu => ?_⟩⟩⟩
 cases i with
 | zero =>
  obtain rfl : Value.string x = u:=by simpa using hu
  have hc:=blk_cell h j
  have e : (⟨g,0,none⟩ : Addr).add (j * 1 + 0) = ⟨g,j,none⟩:=by simp [Addr.add]; omega
  show W.cell? ((⟨g,0,none⟩ : Addr).add (j * 1 + 0)) = _
  rw [e,hc]
  simp [hj]
 | succ i => simp at hu
def pathsS (x : S25) : List ByteArray:=if x.f0 = 10 then [x.f1,x.f2] else [x.f1]
set_option maxHeartbeats 2000000 in
set_option maxRecDepth 100000 in
theorem paths_calls (p : S25) (A5 : Option Addr) (c5 : Nat) (A6 : Option Addr) (c6 : Nat) (gp : Nat) (w : World) (hp : w.heap[gp]? = some (.cells #[.int .i64 p.f0,.string p.f1,.string p.f2,.string p.f3,.int .i64 p.f4,.slice A5 p.f5.length c5,.slice A6 p.f6.length c6] 25 (0,0))) :
  Calls Tryz.prog 151 #[.pointer (some ⟨gp,0,none⟩)] w fun e w' => ∃ A c,e = .returned (.slice A (pathsS p).length c) ∧ (pathsS p).length ≤ c ∧ Kd.C Kd.string w' A (pathsS p).length (pathsS p) ∧ Below w.heap.size w w':=by
 have pc0 : w.cell? ⟨gp,0,none⟩ = some (.int .i64 p.f0):=(blk_cell hp 0).trans rfl
 have pf0:=blk_frozen hp 0
 have pc1 : w.cell? ⟨gp,1,none⟩ = some (.string p.f1):=(blk_cell hp 1).trans rfl
 have pf1:=blk_frozen hp 1
 have pc2 : w.cell? ⟨gp,2,none⟩ = some (.string p.f2):=(blk_cell hp 2).trans rfl
 have pf2:=blk_frozen hp 2
 have pc3 : w.cell? ⟨gp,3,none⟩ = some (.string p.f3):=(blk_cell hp 3).trans rfl
 have pf3:=blk_frozen hp 3
 have pc4 : w.cell? ⟨gp,4,none⟩ = some (.int .i64 p.f4):=(blk_cell hp 4).trans rfl
 have pf4:=blk_frozen hp 4
 have pc5 : w.cell? ⟨gp,5,none⟩ = some (.slice A5 p.f5.length c5):=(blk_cell hp 5).trans rfl
 have pf5:=blk_frozen hp 5
 have pc6 : w.cell? ⟨gp,6,none⟩ = some (.slice A6 p.f6.length c6):=(blk_cell hp 6).trans rfl
 have pf6:=blk_frozen hp 6
 unfold pathsS
 by_cases h : p.f0 = 10
 ·have hb : (p.f0 == 10) = true:=by simpa using h
  rw [if_pos h]
  clear h
  go_enter Tryz.func151,Tryz.ntmps151
  go_wp2
  all_goals go_region
  all_goals go_wp2
  all_goals go_ret
  all_goals exact ⟨_,_,rfl,Nat.le_refl _,texts_read (l:=[p.f1,p.f2]) (World.alloc_heap_new w _) (by simp),((Below.refl _ w).alloc (Nat.le_refl _) _).drew⟩
 ·have hb : (p.f0 == 10) = false:=by simpa using h
  rw [if_neg h]
  clear h
  go_enter Tryz.func151,Tryz.ntmps151
  go_wp2
  go_ret
  exact ⟨_,_,rfl,Nat.le_refl _,texts_read (l:=[p.f1]) (World.alloc_heap_new w _) (by simp),(Below.refl _ w).alloc (Nat.le_refl _) _⟩
def apartL (a b : List ByteArray) : Bool:=a.all (fun x => b.all (fun y => apartB x y))
theorem apart_l1 (a b : List ByteArray) (ha : a.length ≤ 140737488355328) (hb : b.length ≤ 140737488355328) (i : Nat) (hi : i < a.length) (r : Bool) (hr : Ev (fun k => commute_apart.l0 k b a (a.length : Int) ((i + 1 : Nat) : Int)) r) :
  ∀ (d j : Nat),j + d = b.length → Ev (fun k => commute_apart.l1 k b a[i] a (a.length : Int) (i : Int) b (b.length : Int) (j : Int)) ((b.drop j).all (fun y => apartB a[i] y) && r):=by
 intro d
 induction d with
 | zero =>
  intro j hj
  rw [List.drop_of_length_le (by omega)]
  refine Ev.step (f:=fun k => commute_apart.l0 k b a (a.length : Int) ((i + 1 : Nat) : Int)) (fun k => ?_) (by simpa using hr)
  simp only [commute_apart.l1]
  rw [if_neg (by omega),wrap_1 hi ha]
 | succ d ih =>
  intro j hj
  have h1 : j < b.length:=by omega
  have key:=ih (j + 1) (by omega)
  rw [List.drop_eq_getElem_cons h1,List.all_cons]
  cases hx : apartB a[i] b[j] with
  | true =>
   rw [Bool.true_and]
   refine Ev.step (fun k => ?_) key
   simp only [commute_apart.l1]
   rw [if_pos (by omega),if_pos (by omega),if_pos (by omega),rdOf_get _ _ h1,apart_f,hx,Option.bind_some,if_pos rfl,wrap_1 h1 hb]
  | false =>
   rw [Bool.false_and,Bool.false_and]
   refine Ev.step (f:=fun _ => some false) (fun k => ?_) (Ev.now _)
   simp only [commute_apart.l1]
   rw [if_pos (by omega),if_pos (by omega),if_pos (by omega),rdOf_get _ _ h1,apart_f,hx,Option.bind_some,if_neg (by simp)]
theorem apart_l0 (a b : List ByteArray) (ha : a.length ≤ 140737488355328) (hb : b.length ≤ 140737488355328) : ∀ (d i : Nat),i + d = a.length → Ev (fun k => commute_apart.l0 k b a (a.length : Int) (i : Int)) (apartL (a.drop i) b):=by
 intro d
 induction d with
 | zero =>
  intro i hi
  rw [List.drop_of_length_le (by omega)]
  refine Ev.step (f:=fun _ => some true) (fun k => ?_) (Ev.now _)
  simp only [commute_apart.l0]
  rw [if_neg (by omega)]
 | succ d ih =>
  intro i hi
  have h1 : i < a.length:=by omega
  have key:=apart_l1 a b ha hb i h1 _ (ih (i + 1) (by omega)) b.length 0 (by omega)
  rw [List.drop_zero] at key
  rw [List.drop_eq_getElem_cons h1,apartL,List.all_cons]
  refine Ev.step (fun k => ?_) key
  simp only [commute_apart.l0]
  rw [if_pos (by omega),if_pos (by omega),if_pos (by omega),rdOf_get _ _ h1]
  rfl
theorem apart_list (a b : List ByteArray) (ha : a.length ≤ 140737488355328) (hb : b.length ≤ 140737488355328) : Ev (fun k => commute_apart.f k a b) (apartL a b):=by
 have h:=apart_l0 a b ha hb a.length 0 (by omega)
 rw [List.drop_zero] at h
 exact h
theorem paths_len (x : S25) : (pathsS x).length ≤ 140737488355328:=by
 unfold pathsS
 split <;> simp
set_option maxHeartbeats 2000000 in
set_option maxRecDepth 100000 in
theorem still_calls (p q : S25) (A5 : Option Addr) (c5 : Nat) (A6 : Option Addr) (c6 : Nat) (B5 : Option Addr) (d5 : Nat) (B6 : Option Addr) (d6 : Nat) (gp gq : Nat) (w : World)
  (hp : w.heap[gp]? = some (.cells #[.int .i64 p.f0,.string p.f1,.string p.f2,.string p.f3,.int .i64 p.f4,.slice A5 p.f5.length c5,.slice A6 p.f6.length c6] 25 (0,0))) (hq : w.heap[gq]? = some (.cells #[.int .i64 q.f0,.string q.f1,.string q.f2,.string q.f3,.int .i64 q.f4,.slice B5 q.f5.length d5,.slice B6 q.f6.length d6] 25 (0,0))) :
  Calls Tryz.prog 119 #[.pointer (some ⟨gp,0,none⟩),.pointer (some ⟨gq,0,none⟩)] w fun e w' => e = .returned (.bool (apartL (pathsS p) (pathsS q))) ∧ Below w.heap.size w w':=by
 obtain ⟨k,hk⟩:=(apart_list (pathsS p) (pathsS q) (paths_len p) (paths_len q)).rounds
 go_enter Tryz.func119,Tryz.ntmps119
 go_wp2_with (fail)
 refine (paths_calls p A5 c5 A6 c6 gp w hp).mono ?_
 rintro e w1 ⟨X,cx,rfl,lx,hX,hb1⟩
 go_wp2_with (fail)
 refine (paths_calls q B5 d5 B6 d6 gq w1 ((hb1.block _ (Array.getElem?_eq_some_iff.1 hq).1).trans hq)).mono ?_
 rintro e w2 ⟨Y,cy,rfl,ly,hY,hb2⟩
 go_wp2_with (fail)
 refine (commute_apart.calls k X cx _ Y cy _ _ w2 (Kd.C_below hX hb2) lx hY ly hk).mono ?_
 rintro e w3 ⟨rfl,m,rfl⟩
 go_wp2
 go_ret
 exact ⟨rfl,pw_below_drewN (hb1.trans (hb2.mono hb1.size)) m⟩
structure Left2 (w : World) (gp gq : Nat) (cp cq : Array Value) (w' : World) : Prop where
 p : w'.heap[gp]? = some (.cells cp 25 (0,0))
 q : w'.heap[gq]? = some (.cells cq 25 (0,0))
 size : w.heap.size ≤ w'.heap.size
 other : ∀ k,k < w.heap.size → k ≠ gp → k ≠ gq → w'.heap[k]? = w.heap[k]?
 below : ∀ (B : Nat) (w0 : World),Below B w0 w → B ≤ gp → B ≤ gq → Below B w0 w'
theorem Left2.of_below {w w' : World} {gp gq : Nat} {cp cq : Array Value} (hp : w.heap[gp]? = some (.cells cp 25 (0,0))) (hq : w.heap[gq]? = some (.cells cq 25 (0,0))) (h : Below w.heap.size w w') : Left2 w gp gq cp cq w' :=
 ⟨(h.block _ (Array.getElem?_eq_some_iff.1 hp).1).trans hp,(h.block _ (Array.getElem?_eq_some_iff.1 hq).1).trans hq,h.size,fun k hk _ _ => h.block k hk,fun B w0 hb h1 _ => hb.trans (h.mono (by have:=(Array.getElem?_eq_some_iff.1 hp).1; omega))⟩
theorem Left2.set_p {w : World} {gp gq i : Nat} {cp cq : Array Value} {v : Value} (hne : gp ≠ gq) (hp : w.heap[gp]? = some (.cells cp 25 (0,0))) (hq : w.heap[gq]? = some (.cells cq 25 (0,0))) : Left2 w gp gq (cp.setIfInBounds i v) cq (w.setCell ⟨gp,i,none⟩ v) :=
 ⟨blk_set hp i v,blk_far hq (Ne.symm hne) v,by simp,fun k _ h1 _ => Below.heap_setCell w _ v k h1,fun _ _ hb h1 _ => Below.setCell (p:=⟨gp,i,none⟩) hb h1 _⟩
theorem Left2.set_q {w : World} {gp gq i : Nat} {cp cq : Array Value} {v : Value} (hne : gp ≠ gq) (hp : w.heap[gp]? = some (.cells cp 25 (0,0))) (hq : w.heap[gq]? = some (.cells cq 25 (0,0))) : Left2 w gp gq cp (cq.setIfInBounds i v) (w.setCell ⟨gq,i,none⟩ v) :=
 ⟨blk_far hp hne v,blk_set hq i v,by simp,fun k _ _ h1 => Below.heap_setCell w _ v k h1,fun _ _ hb _ h1 => Below.setCell (p:=⟨gq,i,none⟩) hb h1 _⟩
theorem Left2.trans {w w1 w2 : World} {gp gq : Nat} {cp cq cp' cq' : Array Value} (h : Left2 w gp gq cp cq w1) (k : Left2 w1 gp gq cp' cq' w2) : Left2 w gp gq cp' cq' w2 :=
 ⟨k.p,k.q,Nat.le_trans h.size k.size,fun j hj h1 h2 => (k.other j (Nat.lt_of_lt_of_le hj h.size) h1 h2).trans (h.other j hj h1 h2),fun B w0 hb h1 h2 => k.below B w0 (h.below B w0 hb h1 h2) h1 h2⟩
theorem Left2.drew {w w' : World} {gp gq : Nat} {cp cq : Array Value} (h : Left2 w gp gq cp cq w') : Left2 w gp gq cp cq w'.drew:=⟨h.p,h.q,h.size,h.other,fun B w0 a b c => (h.below B w0 a b c).drew⟩
def bothS (p q : S25) : S25 × S25 × Bool :=
 if p.f1.toList = q.f1.toList then
  if p.f0 = 7 ∧ q.f0 = 7 then
   if wrap64 (q.f4 - (p.f6.length : Int)) > p.f4 then (p,{ q with f4:=wrap64 (q.f4 + wrap64 ((p.f5.length : Int) - (p.f6.length : Int))) },true)
   else if wrap64 (p.f4 - (q.f5.length : Int)) > q.f4 then ({ p with f4:=wrap64 (p.f4 + wrap64 ((q.f6.length : Int) - (q.f5.length : Int))) },q,true)
   else (p,q,false)
  else (p,q,false)
 else (p,q,true)
set_option maxHeartbeats 4000000 in
set_option maxRecDepth 100000 in
theorem both_calls (p q : S25) (A5 : Option Addr) (c5 : Nat) (A6 : Option Addr) (c6 : Nat) (B5 : Option Addr) (d5 : Nat) (B6 : Option Addr) (d6 : Nat) (gp gq : Nat) (hne : gp ≠ gq) (w : World)
  (hp : w.heap[gp]? = some (.cells #[.int .i64 p.f0,.string p.f1,.string p.f2,.string p.f3,.int .i64 p.f4,.slice A5 p.f5.length c5,.slice A6 p.f6.length c6] 25 (0,0))) (hq : w.heap[gq]? = some (.cells #[.int .i64 q.f0,.string q.f1,.string q.f2,.string q.f3,.int .i64 q.f4,.slice B5 q.f5.length d5,.slice B6 q.f6.length d6] 25 (0,0))) :
  Calls Tryz.prog 121 #[.pointer (some ⟨gp,0,none⟩),.pointer (some ⟨gq,0,none⟩)] w fun e w' => e = .returned (.bool (bothS p q).2.2) ∧ Left2 w gp gq (cs (bothS p q).1 A5 c5 A6 c6) (cs (bothS p q).2.1 B5 d5 B6 d6) w':=by
 have pc0 : w.cell? ⟨gp,0,none⟩ = some (.int .i64 p.f0):=(blk_cell hp 0).trans rfl
 have pf0:=blk_frozen hp 0
 have pc1 : w.cell? ⟨gp,1,none⟩ = some (.string p.f1):=(blk_cell hp 1).trans rfl
 have pf1:=blk_frozen hp 1
 have pc2 : w.cell? ⟨gp,2,none⟩ = some (.string p.f2):=(blk_cell hp 2).trans rfl
 have pf2:=blk_frozen hp 2
 have pc3 : w.cell? ⟨gp,3,none⟩ = some (.string p.f3):=(blk_cell hp 3).trans rfl
 have pf3:=blk_frozen hp 3
 have pc4 : w.cell? ⟨gp,4,none⟩ = some (.int .i64 p.f4):=(blk_cell hp 4).trans rfl
 have pf4:=blk_frozen hp 4
 have pc5 : w.cell? ⟨gp,5,none⟩ = some (.slice A5 p.f5.length c5):=(blk_cell hp 5).trans rfl
 have pf5:=blk_frozen hp 5
 have pc6 : w.cell? ⟨gp,6,none⟩ = some (.slice A6 p.f6.length c6):=(blk_cell hp 6).trans rfl
 have pf6:=blk_frozen hp 6
 have qc0 : w.cell? ⟨gq,0,none⟩ = some (.int .i64 q.f0):=(blk_cell hq 0).trans rfl
 have qf0:=blk_frozen hq 0
 have qc1 : w.cell? ⟨gq,1,none⟩ = some (.string q.f1):=(blk_cell hq 1).trans rfl
 have qf1:=blk_frozen hq 1
 have qc2 : w.cell? ⟨gq,2,none⟩ = some (.string q.f2):=(blk_cell hq 2).trans rfl
 have qf2:=blk_frozen hq 2
 have qc3 : w.cell? ⟨gq,3,none⟩ = some (.string q.f3):=(blk_cell hq 3).trans rfl
 have qf3:=blk_frozen hq 3
 have qc4 : w.cell? ⟨gq,4,none⟩ = some (.int .i64 q.f4):=(blk_cell hq 4).trans rfl
 have qf4:=blk_frozen hq 4
 have qc5 : w.cell? ⟨gq,5,none⟩ = some (.slice B5 q.f5.length d5):=(blk_cell hq 5).trans rfl
 have qf5:=blk_frozen hq 5
 have qc6 : w.cell? ⟨gq,6,none⟩ = some (.slice B6 q.f6.length d6):=(blk_cell hq 6).trans rfl
 have qf6:=blk_frozen hq 6
 unfold bothS
 by_cases h1 : p.f1.toList = q.f1.toList
 ·have b1 : (p.f1.toList != q.f1.toList) = false:=by simpa using h1
  have b1' : (p.f1.toList == q.f1.toList) = true:=by simpa using h1
  rw [if_pos h1]
  clear h1
  by_cases h7 : p.f0 = 7
  ·have b2 : (p.f0 != 7) = false:=by simpa using h7
   have b2' : (p.f0 == 7) = true:=by simpa using h7
   by_cases h8 : q.f0 = 7
   ·have b3 : (q.f0 != 7) = false:=by simpa using h8
    have b3' : (q.f0 == 7) = true:=by simpa using h8
    rw [if_pos ⟨h7,h8⟩]
    clear h7 h8
    by_cases h3 : wrap64 (q.f4 - (p.f6.length : Int)) > p.f4
    ·have b4 : decide (p.f4 < wrap64 (q.f4 - (p.f6.length : Int))) = true:=decide_eq_true h3
     rw [if_pos h3]
     clear h3
     go_enter Tryz.func121,Tryz.ntmps121
     go_wp2
     all_goals go_region
     all_goals go_wp2
     all_goals go_region
     all_goals go_wp2
     all_goals go_region
     all_goals go_wp2
     all_goals go_ret
     all_goals exact ⟨rfl,by repeat (first | exact Left2.set_q (i:=4) hne hp hq | refine Left2.drew ?_)⟩
    ·have b4 : decide (p.f4 < wrap64 (q.f4 - (p.f6.length : Int))) = false:=decide_eq_false h3
     rw [if_neg h3]
     clear h3
     by_cases h5 : wrap64 (p.f4 - (q.f5.length : Int)) > q.f4
     ·have b5 : decide (q.f4 < wrap64 (p.f4 - (q.f5.length : Int))) = true:=decide_eq_true h5
      rw [if_pos h5]
      clear h5
      go_enter Tryz.func121,Tryz.ntmps121
      go_wp2
      all_goals go_region
      all_goals go_wp2
      all_goals go_region
      all_goals go_wp2
      all_goals go_region
      all_goals go_wp2
      all_goals go_region
      all_goals go_wp2
      all_goals go_ret
      all_goals exact ⟨rfl,by repeat (first | exact Left2.set_p (i:=4) hne hp hq | refine Left2.drew ?_)⟩
     ·have b5 : decide (q.f4 < wrap64 (p.f4 - (q.f5.length : Int))) = false:=decide_eq_false h5
      rw [if_neg h5]
      clear h5
      go_enter Tryz.func121,Tryz.ntmps121
      go_wp2
      all_goals go_region
      all_goals go_wp2
      all_goals go_region
      all_goals go_wp2
      all_goals go_region
      all_goals go_wp2
      all_goals go_ret
      all_goals exact ⟨rfl,Left2.of_below hp hq (by repeat (first | exact Below.refl _ _ | refine Below.drew ?_))⟩
   ·have b3 : (q.f0 != 7) = true:=by simpa using h8
    have b3' : (q.f0 == 7) = false:=by simpa using h8
    rw [if_neg (fun h => h8 h.2)]
    clear h7 h8
    go_enter Tryz.func121,Tryz.ntmps121
    go_wp2
    all_goals go_region
    all_goals go_wp2
    all_goals go_ret
    all_goals exact ⟨rfl,Left2.of_below hp hq (by repeat (first | exact Below.refl _ _ | refine Below.drew ?_))⟩
  ·have b2 : (p.f0 != 7) = true:=by simpa using h7
   have b2' : (p.f0 == 7) = false:=by simpa using h7
   rw [if_neg (fun h => h7 h.1)]
   clear h7
   go_enter Tryz.func121,Tryz.ntmps121
   go_wp2
   all_goals go_region
   all_goals go_wp2
   all_goals go_ret
   all_goals exact ⟨rfl,Left2.of_below hp hq (by repeat (first | exact Below.refl _ _ | refine Below.drew ?_))⟩
 ·have b1 : (p.f1.toList != q.f1.toList) = true:=by simpa using h1
  have b1' : (p.f1.toList == q.f1.toList) = false:=by simpa using h1
  rw [if_neg h1]
  clear h1
  go_enter Tryz.func121,Tryz.ntmps121
  go_wp2
  all_goals go_region
  all_goals go_wp2
  all_goals go_ret
  all_goals exact ⟨rfl,Left2.of_below hp hq (by repeat (first | exact Below.refl _ _ | refine Below.drew ?_))⟩
def movedS (p fr dst : ByteArray) : ByteArray × Bool:=if withinB p fr = true then (dst ++ p.extract fr.size p.size,true) else (⟨#[]⟩,false)
structure Left1 (w : World) (g : Nat) (c : Array Value) (w' : World) : Prop where
 p : w'.heap[g]? = some (.cells c 25 (0,0))
 size : w.heap.size ≤ w'.heap.size
 other : ∀ k,k < w.heap.size → k ≠ g → w'.heap[k]? = w.heap[k]?
 below : ∀ (B : Nat) (w0 : World),Below B w0 w → B ≤ g → Below B w0 w'
theorem Left1.of_below {w w' : World} {g : Nat} {c : Array Value} (hp : w.heap[g]? = some (.cells c 25 (0,0))) (h : Below w.heap.size w w') : Left1 w g c w' :=
 ⟨(h.block _ (blk_lt hp)).trans hp,h.size,fun k hk _ => h.block k hk,fun B w0 hb h1 => hb.trans (h.mono (by have:=blk_lt hp; omega))⟩
theorem Left1.set {w w1 : World} {g i : Nat} {c : Array Value} {v : Value} (h : Left1 w g c w1) : Left1 w g (c.setIfInBounds i v) (w1.setCell ⟨g,i,none⟩ v) :=
 ⟨blk_set h.p i v,by simpa using h.size,fun k hk h1 => (Below.heap_setCell w1 _ v k h1).trans (h.other k hk h1),fun B w0 hb h1 => Below.setCell (p:=⟨g,i,none⟩) (h.below B w0 hb h1) h1 _⟩
theorem Left1.drew {w w1 : World} {g : Nat} {c : Array Value} (h : Left1 w g c w1) : Left1 w g c w1.drew:=⟨h.p,h.size,h.other,fun B w0 hb h1 => (h.below B w0 hb h1).drew⟩
theorem Left1.two_p {w w' : World} {gp gq : Nat} {cp cq : Array Value} (hne : gp ≠ gq) (hq : w.heap[gq]? = some (.cells cq 25 (0,0))) (h : Left1 w gp cp w') : Left2 w gp gq cp cq w' :=
 ⟨h.p,(h.other gq (blk_lt hq) (Ne.symm hne)).trans hq,h.size,fun k hk h1 _ => h.other k hk h1,fun B w0 hb h1 _ => h.below B w0 hb h1⟩
theorem Left1.two_q {w w' : World} {gp gq : Nat} {cp cq : Array Value} (hne : gp ≠ gq) (hp : w.heap[gp]? = some (.cells cp 25 (0,0))) (h : Left1 w gq cq w') : Left2 w gp gq cp cq w' :=
 ⟨(h.other gp (blk_lt hp) hne).trans hp,h.p,h.size,fun k hk _ h1 => h.other k hk h1,fun B w0 hb _ h1 => h.below B w0 hb h1⟩
def carryS (s fr dst : ByteArray) : ByteArray × Bool:=if withinB s fr = true then (dst ++ s.extract fr.size s.size,true) else (s,!withinB s dst)
set_option maxHeartbeats 1000000 in
set_option maxRecDepth 100000 in
theorem carry_calls (x : S25) (A5 : Option Addr) (c5 : Nat) (A6 : Option Addr) (c6 : Nat) (g : Nat) (fr dst : ByteArray) (w : World) (hs : dst.size + x.f1.size ≤ 140737488355328) (hp : w.heap[g]? = some (.cells #[.int .i64 x.f0,.string x.f1,.string x.f2,.string x.f3,.int .i64 x.f4,.slice A5 x.f5.length c5,.slice A6 x.f6.length c6] 25 (0,0))) :
  Calls Tryz.prog 123 #[.pointer (some ⟨g,1,none⟩),.string fr,.string dst] w fun e w' => e = .returned (.bool (carryS x.f1 fr dst).2) ∧ Left1 w g #[.int .i64 x.f0,.string (carryS x.f1 fr dst).1,.string x.f2,.string x.f3,.int .i64 x.f4,.slice A5 x.f5.length c5,.slice A6 x.f6.length c6] w':=by
 have hM:=fun W => moved_calls x.f1 fr dst W hs
 have hW:=fun W => path_Within.calls x.f1 dst (withinB x.f1 dst) W (within_f x.f1 dst)
 have pc1 : w.cell? ⟨g,1,none⟩ = some (.string x.f1):=(blk_cell hp 1).trans rfl
 have pf1:=blk_frozen hp 1
 unfold carryS
 unfold movedS at hM
 cases hb : withinB x.f1 fr with
 | false =>
  simp only [hb,Bool.false_eq_true,if_false] at hM ⊢
  obtain ⟨b,hbb⟩ : ∃ b,withinB x.f1 dst = b:=⟨_,rfl⟩
  rw [hbb] at hW ⊢
  clear hbb
  go_enter Tryz.func123,Tryz.ntmps123
  go_wp2_with (fail)
  refine (hM w).mono ?_
  rintro e w1 ⟨rfl,hb1⟩
  have q1 : w1.cell? ⟨g,1,none⟩ = some (.string x.f1):=(blk_cell (blk_below hp hb1) 1).trans rfl
  go_wp2_with (fail)
  refine (hW w1).mono ?_
  rintro e w2 ⟨rfl,m,rfl⟩
  go_wp2
  go_ret
  exact ⟨rfl,Left1.of_below hp (pw_below_drewN hb1 m)⟩
 | true =>
  simp only [hb,if_true] at hM ⊢
  go_enter Tryz.func123,Tryz.ntmps123
  go_wp2_with (fail)
  refine (hM w).mono ?_
  rintro e w1 ⟨rfl,hb1⟩
  have q1 : w1.cell? ⟨g,1,none⟩ = some (.string x.f1):=(blk_cell (blk_below hp hb1) 1).trans rfl
  have qf1:=blk_frozen (blk_below hp hb1) 1
  go_wp2
  go_ret
  exact ⟨rfl,Left1.set (i:=1) (Left1.of_below hp hb1)⟩
theorem Left1.of_drew {w w1 : World} {g : Nat} {c : Array Value} (h : Left1 w.drew g c w1) : Left1 w g c w1:=⟨h.p,h.size,h.other,fun B w0 hb h1 => h.below B w0 hb.drew h1⟩
set_option maxHeartbeats 2000000 in
set_option maxRecDepth 100000 in
theorem rule1_calls (p q : S25) (A5 : Option Addr) (c5 : Nat) (A6 : Option Addr) (c6 : Nat) (B5 : Option Addr) (d5 : Nat) (B6 : Option Addr) (d6 : Nat) (gp gq : Nat) (hne : gp ≠ gq) (w : World)
  (hp : w.heap[gp]? = some (.cells #[.int .i64 p.f0,.string p.f1,.string p.f2,.string p.f3,.int .i64 p.f4,.slice A5 p.f5.length c5,.slice A6 p.f6.length c6] 25 (0,0))) (hq : w.heap[gq]? = some (.cells #[.int .i64 q.f0,.string q.f1,.string q.f2,.string q.f3,.int .i64 q.f4,.slice B5 q.f5.length d5,.slice B6 q.f6.length d6] 25 (0,0))) (hs : q.f2.size + p.f1.size ≤ 140737488355328) :
  Calls Tryz.prog 122 #[.pointer (some ⟨gp,0,none⟩),.pointer (some ⟨gq,0,none⟩)] w fun e w' => e = .returned (.bool (carryS p.f1 q.f1 q.f2).2) ∧ Left2 w gp gq (cs { p with f1:=(carryS p.f1 q.f1 q.f2).1 } A5 c5 A6 c6) (cs q B5 d5 B6 d6) w':=by
 have pc0 : w.cell? ⟨gp,0,none⟩ = some (.int .i64 p.f0):=(blk_cell hp 0).trans rfl
 have pf0:=blk_frozen hp 0
 have pc1 : w.cell? ⟨gp,1,none⟩ = some (.string p.f1):=(blk_cell hp 1).trans rfl
 have pf1:=blk_frozen hp 1
 have pc2 : w.cell? ⟨gp,2,none⟩ = some (.string p.f2):=(blk_cell hp 2).trans rfl
 have pf2:=blk_frozen hp 2
 have pc3 : w.cell? ⟨gp,3,none⟩ = some (.string p.f3):=(blk_cell hp 3).trans rfl
 have pf3:=blk_frozen hp 3
 have pc4 : w.cell? ⟨gp,4,none⟩ = some (.int .i64 p.f4):=(blk_cell hp 4).trans rfl
 have pf4:=blk_frozen hp 4
 have pc5 : w.cell? ⟨gp,5,none⟩ = some (.slice A5 p.f5.length c5):=(blk_cell hp 5).trans rfl
 have pf5:=blk_frozen hp 5
 have pc6 : w.cell? ⟨gp,6,none⟩ = some (.slice A6 p.f6.length c6):=(blk_cell hp 6).trans rfl
 have pf6:=blk_frozen hp 6
 have qc0 : w.cell? ⟨gq,0,none⟩ = some (.int .i64 q.f0):=(blk_cell hq 0).trans rfl
 have qf0:=blk_frozen hq 0
 have qc1 : w.cell? ⟨gq,1,none⟩ = some (.string q.f1):=(blk_cell hq 1).trans rfl
 have qf1:=blk_frozen hq 1
 have qc2 : w.cell? ⟨gq,2,none⟩ = some (.string q.f2):=(blk_cell hq 2).trans rfl
 have qf2:=blk_frozen hq 2
 have qc3 : w.cell? ⟨gq,3,none⟩ = some (.string q.f3):=(blk_cell hq 3).trans rfl
 have qf3:=blk_frozen hq 3
 have qc4 : w.cell? ⟨gq,4,none⟩ = some (.int .i64 q.f4):=(blk_cell hq 4).trans rfl
 have qf4:=blk_frozen hq 4
 have qc5 : w.cell? ⟨gq,5,none⟩ = some (.slice B5 q.f5.length d5):=(blk_cell hq 5).trans rfl
 have qf5:=blk_frozen hq 5
 have qc6 : w.cell? ⟨gq,6,none⟩ = some (.slice B6 q.f6.length d6):=(blk_cell hq 6).trans rfl
 have qf6:=blk_frozen hq 6
 go_enter Tryz.func122,Tryz.ntmps122
 go_wp2
 all_goals go_region_with (go_at_call 123; refine (carry_calls p A5 c5 A6 c6 gp q.f1 q.f2 _ hs (by exact hp)).mono ?_; rintro e w1 ⟨rfl,hb1⟩)
 all_goals go_wp2
 all_goals go_ret
 all_goals exact ⟨rfl,Left1.two_p hne hq (by repeat (first | exact hb1 | refine Left1.drew ?_ | refine Left1.of_drew ?_))⟩
set_option maxHeartbeats 2000000 in
set_option maxRecDepth 100000 in
theorem rule2_calls (p q : S25) (A5 : Option Addr) (c5 : Nat) (A6 : Option Addr) (c6 : Nat) (B5 : Option Addr) (d5 : Nat) (B6 : Option Addr) (d6 : Nat) (gp gq : Nat) (hne : gp ≠ gq) (w : World)
  (hp : w.heap[gp]? = some (.cells #[.int .i64 p.f0,.string p.f1,.string p.f2,.string p.f3,.int .i64 p.f4,.slice A5 p.f5.length c5,.slice A6 p.f6.length c6] 25 (0,0))) (hq : w.heap[gq]? = some (.cells #[.int .i64 q.f0,.string q.f1,.string q.f2,.string q.f3,.int .i64 q.f4,.slice B5 q.f5.length d5,.slice B6 q.f6.length d6] 25 (0,0))) (hs : p.f1.size + q.f1.size ≤ 140737488355328) :
  Calls Tryz.prog 124 #[.pointer (some ⟨gp,0,none⟩),.pointer (some ⟨gq,0,none⟩)] w fun e w' => e = .returned (.bool (carryS q.f1 p.f2 p.f1).2) ∧ Left2 w gp gq (cs p A5 c5 A6 c6) (cs { q with f1:=(carryS q.f1 p.f2 p.f1).1 } B5 d5 B6 d6) w':=by
 have pc0 : w.cell? ⟨gp,0,none⟩ = some (.int .i64 p.f0):=(blk_cell hp 0).trans rfl
 have pf0:=blk_frozen hp 0
 have pc1 : w.cell? ⟨gp,1,none⟩ = some (.string p.f1):=(blk_cell hp 1).trans rfl
 have pf1:=blk_frozen hp 1
 have pc2 : w.cell? ⟨gp,2,none⟩ = some (.string p.f2):=(blk_cell hp 2).trans rfl
 have pf2:=blk_frozen hp 2
 have pc3 : w.cell? ⟨gp,3,none⟩ = some (.string p.f3):=(blk_cell hp 3).trans rfl
 have pf3:=blk_frozen hp 3
 have pc4 : w.cell? ⟨gp,4,none⟩ = some (.int .i64 p.f4):=(blk_cell hp 4).trans rfl
 have pf4:=blk_frozen hp 4
 have pc5 : w.cell? ⟨gp,5,none⟩ = some (.slice A5 p.f5.length c5):=(blk_cell hp 5).trans rfl
 have pf5:=blk_frozen hp 5
 have pc6 : w.cell? ⟨gp,6,none⟩ = some (.slice A6 p.f6.length c6):=(blk_cell hp 6).trans rfl
 have pf6:=blk_frozen hp 6
 have qc0 : w.cell? ⟨gq,0,none⟩ = some (.int .i64 q.f0):=(blk_cell hq 0).trans rfl
 have qf0:=blk_frozen hq 0
 have qc1 : w.cell? ⟨gq,1,none⟩ = some (.string q.f1):=(blk_cell hq 1).trans rfl
 have qf1:=blk_frozen hq 1
 have qc2 : w.cell? ⟨gq,2,none⟩ = some (.string q.f2):=(blk_cell hq 2).trans rfl
 have qf2:=blk_frozen hq 2
 have qc3 : w.cell? ⟨gq,3,none⟩ = some (.string q.f3):=(blk_cell hq 3).trans rfl
 have qf3:=blk_frozen hq 3
 have qc4 : w.cell? ⟨gq,4,none⟩ = some (.int .i64 q.f4):=(blk_cell hq 4).trans rfl
 have qf4:=blk_frozen hq 4
 have qc5 : w.cell? ⟨gq,5,none⟩ = some (.slice B5 q.f5.length d5):=(blk_cell hq 5).trans rfl
 have qf5:=blk_frozen hq 5
 have qc6 : w.cell? ⟨gq,6,none⟩ = some (.slice B6 q.f6.length d6):=(blk_cell hq 6).trans rfl
 have qf6:=blk_frozen hq 6
 go_enter Tryz.func124,Tryz.ntmps124
 go_wp2
 all_goals go_region_with (go_at_call 123; refine (carry_calls q B5 d5 B6 d6 gq p.f2 p.f1 _ hs (by exact hq)).mono ?_; rintro e w1 ⟨rfl,hb1⟩)
 all_goals go_wp2
 all_goals go_ret
 all_goals exact ⟨rfl,Left1.two_q hne hp (by repeat (first | exact hb1 | refine Left1.drew ?_ | refine Left1.of_drew ?_))⟩
abbrev zeroC : Array Value:=#[.int .i64 0,.string ⟨#[]⟩,.string ⟨#[]⟩,.string ⟨#[]⟩,.int .i64 0,.slice none 0 0,.slice none 0 0]
structure St (w : World) (cp cq : Array Value) (W : World) : Prop where
 p : W.heap[w.heap.size]? = some (.cells cp 25 (0,0))
 q : W.heap[w.heap.size + 1]? = some (.cells cq 25 (0,0))
 x : W.heap[w.heap.size + 1 + 1]? = some (.cells zeroC 25 (0,0))
 y : W.heap[w.heap.size + 1 + 1 + 1]? = some (.cells zeroC 25 (0,0))
 below : Below w.heap.size w W
theorem St.start (w : World) (cp cq : Array Value) : St w cp cq ((((w.alloc (.cells cp 25)).alloc (.cells cq 25)).alloc (.cells zeroC 25)).alloc (.cells zeroC 25)):=by
 refine ⟨blk_alloc (blk_alloc (blk_alloc (blk_new w _) _) _) _,?_,?_,?_,?_⟩
 ·have h:=blk_alloc (blk_alloc (blk_new (w.alloc (.cells cp 25)) (.cells cq 25)) (.cells zeroC 25)) (.cells zeroC 25)
  simpa using h
 ·have h:=blk_alloc (blk_new ((w.alloc (.cells cp 25)).alloc (.cells cq 25)) (.cells zeroC 25)) (.cells zeroC 25)
  simpa using h
 ·have h:=blk_new (((w.alloc (.cells cp 25)).alloc (.cells cq 25)).alloc (.cells zeroC 25)) (.cells zeroC 25)
  simpa using h
 ·exact ((((Below.refl _ w).alloc (Nat.le_refl _) _).alloc (by simp) _).alloc (by simp; omega) _).alloc (by simp; omega) _
theorem St.drew {w W : World} {cp cq : Array Value} (h : St w cp cq W) : St w cp cq W.drew:=⟨h.p,h.q,h.x,h.y,h.below.drew⟩
theorem St.later {w W W' : World} {cp cq : Array Value} (h : St w cp cq W) (hb : Below W.heap.size W W') : St w cp cq W' :=
 ⟨blk_below h.p hb,blk_below h.q hb,blk_below h.x hb,blk_below h.y hb,h.below.trans (hb.mono h.below.size)⟩
theorem St.left {w W W' : World} {cp cq cp' cq' : Array Value} (h : St w cp cq W) (k : Left2 W w.heap.size (w.heap.size + 1) cp' cq' W') : St w cp' cq' W' :=
 ⟨k.p,k.q,(k.other _ (blk_lt h.x) (by omega) (by omega)).trans h.x,(k.other _ (blk_lt h.y) (by omega) (by omega)).trans h.y,k.below _ _ h.below (Nat.le_refl _) (Nat.le_succ _)⟩
theorem right_st (x : S25) (A5 : Option Addr) (c5 : Nat) (A6 : Option Addr) (c6 : Nat) (w W : World) (cp cq : Array Value) (hx : Okp x) (hr : Rd w x A5 c5 A6 c6) (h : St w cp cq W) :
  Calls Tryz.prog 25 #[.agg #[.int .i64 x.f0,.string x.f1,.string x.f2,.string x.f3,.int .i64 x.f4,.slice A5 x.f5.length c5,.slice A6 x.f6.length c6]] W fun e W' => e = .returned (.bool (primB x)) ∧ St w cp cq W':=by
 obtain ⟨k,hk⟩:=(prim_right x hx).rounds
 refine (prim_Right.calls k _ _ _ _ _ _ _ _ _ _ _ _ W (Kd.C_below hr.g5 h.below) hr.l5 (Kd.C_below hr.g6 h.below) hr.l6 hk).mono ?_
 rintro e W' ⟨rfl,hb⟩
 exact ⟨rfl,h.later hb⟩
def classS (x : S25) : Int:=if x.f0 = 10 then 2 else if x.f0 ≥ 7 then 1 else 0
theorem class_st (x : S25) (A5 : Option Addr) (c5 : Nat) (A6 : Option Addr) (c6 : Nat) (w W : World) (cp cq : Array Value) (hr : Rd w x A5 c5 A6 c6) (h : St w cp cq W) :
  Calls Tryz.prog 79 #[.agg #[.int .i64 x.f0,.string x.f1,.string x.f2,.string x.f3,.int .i64 x.f4,.slice A5 x.f5.length c5,.slice A6 x.f6.length c6]] W fun e W' => e = .returned (.int .i64 (classS x)) ∧ St w cp cq W':=by
 have hk : commute_class.f x.f0 x.f1 x.f2 x.f3 x.f4 x.f5 x.f6 = some (classS x):=by
  unfold commute_class.f classS
  split
  ·rfl
  ·split <;> rfl
 refine (commute_class.calls _ _ _ _ _ _ _ _ _ _ _ _ W (Kd.C_below hr.g5 h.below) hr.l5 (Kd.C_below hr.g6 h.below) hr.l6 hk).mono ?_
 rintro e W' ⟨rfl,hb⟩
 exact ⟨rfl,h.later hb⟩
def rulesV : Array Value:=#[.func (.func 119) #[] #[],.func (.func 120) #[] #[],.func (.func 119) #[] #[],.func (.func 120) #[] #[],.func (.func 121) #[] #[],.func (.func 122) #[] #[],.func (.func 119) #[] #[],.func (.func 124) #[] #[],.func (.func 119) #[] #[]]
set_option maxRecDepth 100000 in
theorem rules_calls (w : World) : Calls Tryz.prog 78 #[] w fun e w' => e = .returned (.agg rulesV) ∧ Below w.heap.size w w':=by
 go_enter Tryz.func78,Tryz.ntmps78
 go_wp2
 refine bodyPost_ret (v:=.agg rulesV) ?_ rfl ⟨rfl,?_⟩
 ·simp [results,Tryz.results78,go_sem,rulesV]
 ·exact (Below.refl _ w).alloc (Nat.le_refl _) _
theorem rules_st (w W : World) (cp cq : Array Value) (h : St w cp cq W) : Calls Tryz.prog 78 #[] W fun e W' => e = .returned (.agg rulesV) ∧ St w cp cq W' :=
 (rules_calls W).mono (fun _ _ ⟨he,hb⟩ => ⟨he,h.later hb⟩)
theorem cutG {S G : World → Prop} {goal : Prop} (h : (∀ W,S W → G W) → goal) (h2 : ∀ W,S W → G W) : goal:=h h2
theorem frozen7 {W : World} {g : Nat} {c : Array Value} (h : W.heap[g]? = some (.cells c 25 (0,0))) : W.frozen? ⟨g,0,none⟩ = false ∧ W.frozen? ⟨g,1,none⟩ = false ∧ W.frozen? ⟨g,2,none⟩ = false ∧ W.frozen? ⟨g,3,none⟩ = false ∧ W.frozen? ⟨g,4,none⟩ = false ∧ W.frozen? ⟨g,5,none⟩ = false ∧ W.frozen? ⟨g,6,none⟩ = false:=⟨blk_frozen h 0,blk_frozen h 1,blk_frozen h 2,blk_frozen h 3,blk_frozen h 4,blk_frozen h 5,blk_frozen h 6⟩
theorem deep1 {W : World} {g : Nat} {v0 v1 v2 v3 v4 v5 v6 : Value} (h : W.heap[g]? = some (.cells #[v0,v1,v2,v3,v4,v5,v6] 25 (0,0))) : (∀ o,(W.alloc o).cell? ⟨g,0,none⟩ = some v0) ∧ (∀ o,(W.alloc o).cell? ⟨g,1,none⟩ = some v1) ∧ (∀ o,(W.alloc o).cell? ⟨g,2,none⟩ = some v2) ∧ (∀ o,(W.alloc o).cell? ⟨g,3,none⟩ = some v3) ∧ (∀ o,(W.alloc o).cell? ⟨g,4,none⟩ = some v4) ∧ (∀ o,(W.alloc o).cell? ⟨g,5,none⟩ = some v5) ∧ (∀ o,(W.alloc o).cell? ⟨g,6,none⟩ = some v6) :=
 ⟨fun o => (blk_cell (blk_alloc h o) 0).trans rfl,fun o => (blk_cell (blk_alloc h o) 1).trans rfl,fun o => (blk_cell (blk_alloc h o) 2).trans rfl,fun o => (blk_cell (blk_alloc h o) 3).trans rfl,fun o => (blk_cell (blk_alloc h o) 4).trans rfl,fun o => (blk_cell (blk_alloc h o) 5).trans rfl,fun o => (blk_cell (blk_alloc h o) 6).trans rfl⟩
theorem set7 {W : World} {g : Nat} {c : Array Value} (h : W.heap[g]? = some (.cells c 25 (0,0))) (hc : c.size = 7) (v0 v1 v2 v3 v4 v5 v6 : Value) : (((((((W.setCell ⟨g,0,none⟩ v0).setCell ⟨g,1,none⟩ v1).setCell ⟨g,2,none⟩ v2).setCell ⟨g,3,none⟩ v3).setCell ⟨g,4,none⟩ v4).setCell ⟨g,5,none⟩ v5).setCell ⟨g,6,none⟩ v6).heap[g]? = some (.cells #[v0,v1,v2,v3,v4,v5,v6] 25 (0,0)):=by
 refine (blk_set (blk_set (blk_set (blk_set (blk_set (blk_set (blk_set h 0 v0) 1 v1) 2 v2) 3 v3) 4 v4) 5 v5) 6 v6).trans ?_
 refine congrArg (fun a => some (Obj.cells a 25 (0,0))) ?_
 obtain ⟨l⟩:=c
 match l,hc with
 | [a0,a1,a2,a3,a4,a5,a6],_ => rfl
theorem keep7 {W : World} {g k : Nat} (hk : k ≠ g) (v0 v1 v2 v3 v4 v5 v6 : Value) : (((((((W.setCell ⟨g,0,none⟩ v0).setCell ⟨g,1,none⟩ v1).setCell ⟨g,2,none⟩ v2).setCell ⟨g,3,none⟩ v3).setCell ⟨g,4,none⟩ v4).setCell ⟨g,5,none⟩ v5).setCell ⟨g,6,none⟩ v6).heap[k]? = W.heap[k]?:=by
 rw [Below.heap_setCell _ _ _ _ hk,Below.heap_setCell _ _ _ _ hk,Below.heap_setCell _ _ _ _ hk,Below.heap_setCell _ _ _ _ hk,Below.heap_setCell _ _ _ _ hk,Below.heap_setCell _ _ _ _ hk,Below.heap_setCell _ _ _ _ hk]
theorem below7 {W w : World} {g B : Nat} (hb : Below B w W) (hg : B ≤ g) (v0 v1 v2 v3 v4 v5 v6 : Value) : Below B w (((((((W.setCell ⟨g,0,none⟩ v0).setCell ⟨g,1,none⟩ v1).setCell ⟨g,2,none⟩ v2).setCell ⟨g,3,none⟩ v3).setCell ⟨g,4,none⟩ v4).setCell ⟨g,5,none⟩ v5).setCell ⟨g,6,none⟩ v6) :=
 Below.setCell (Below.setCell (Below.setCell (Below.setCell (Below.setCell (Below.setCell (Below.setCell hb hg _) hg _) hg _) hg _) hg _) hg _) hg _
theorem drew_at {W : World} {k : Nat} {o : Option Obj} (h : W.heap[k]? = o) : W.drew.heap[k]? = o:=h
theorem ret24 {tmps : Array Value} {W : World} {gx gy : Nat} {x0 x1 x2 x3 x4 x5 x6 y0 y1 y2 y3 y4 y5 y6 r : Value} (h4 : tmps[4]? = some (.pointer (some ⟨gx,0,none⟩))) (h5 : tmps[5]? = some (.pointer (some ⟨gy,0,none⟩))) (h6 : tmps[6]? = some r)
  (hx : W.heap[gx]? = some (.cells #[x0,x1,x2,x3,x4,x5,x6] 25 (0,0))) (hy : W.heap[gy]? = some (.cells #[y0,y1,y2,y3,y4,y5,y6] 25 (0,0))) :
  (results Tryz.f42 tmps).run Tryz.prog W = .ok (.tuple #[.agg #[x0,x1,x2,x3,x4,x5,x6],.agg #[y0,y1,y2,y3,y4,y5,y6],r]) W:=by
 have xc0 : W.cell? ⟨gx,0,none⟩ = some x0:=(blk_cell hx 0).trans rfl
 have xc1 : W.cell? ⟨gx,1,none⟩ = some x1:=(blk_cell hx 1).trans rfl
 have xc2 : W.cell? ⟨gx,2,none⟩ = some x2:=(blk_cell hx 2).trans rfl
 have xc3 : W.cell? ⟨gx,3,none⟩ = some x3:=(blk_cell hx 3).trans rfl
 have xc4 : W.cell? ⟨gx,4,none⟩ = some x4:=(blk_cell hx 4).trans rfl
 have xc5 : W.cell? ⟨gx,5,none⟩ = some x5:=(blk_cell hx 5).trans rfl
 have xc6 : W.cell? ⟨gx,6,none⟩ = some x6:=(blk_cell hx 6).trans rfl
 have yc0 : W.cell? ⟨gy,0,none⟩ = some y0:=(blk_cell hy 0).trans rfl
 have yc1 : W.cell? ⟨gy,1,none⟩ = some y1:=(blk_cell hy 1).trans rfl
 have yc2 : W.cell? ⟨gy,2,none⟩ = some y2:=(blk_cell hy 2).trans rfl
 have yc3 : W.cell? ⟨gy,3,none⟩ = some y3:=(blk_cell hy 3).trans rfl
 have yc4 : W.cell? ⟨gy,4,none⟩ = some y4:=(blk_cell hy 4).trans rfl
 have yc5 : W.cell? ⟨gy,5,none⟩ = some y5:=(blk_cell hy 5).trans rfl
 have yc6 : W.cell? ⟨gy,6,none⟩ = some y6:=(blk_cell hy 6).trans rfl
 simp [results,Tryz.results42,go_sem, *]
end Go.Proofs.YthhohbidjhcjeaaGreatDoor.H
namespace Go.Proofs.YthhohbidjhcjeaaGreatDoor.Pl
open Go.RowKit Go.Proofs.YthhohbidjhcjeaaGreatDoorW.PrintWords Go.Proofs.YthhohbidjhcjeaaGreatDoorW.PrintMore Go.Proofs.YthhohbidjhcjeaaGreatDoor.Q Go.Proofs.YthhohbidjhcjeaaGreatDoor.H
theorem carry_yes {s fr dst : ByteArray} (h : withinB s fr = true) : carryS s fr dst = (mv s fr dst,true):=by unfold carryS mv; rw [if_pos h]
theorem carry_no {s fr dst : ByteArray} (h : withinB s fr = false) : carryS s fr dst = (s,!withinB s dst):=by unfold carryS; rw [if_neg (by rw [h]; simp)]
theorem carry_back {s fr dst : ByteArray} (h : (carryS s fr dst).2 = true) : carryS (carryS s fr dst).1 dst fr = (s,true):=by
 cases h1 : withinB s fr with
 | true =>
  rw [carry_yes h1,carry_yes (mv_within dst h1)]
  show (mv (mv s fr dst) dst fr,true) = _
  rw [mv_back dst h1]
 | false =>
  rw [carry_no h1] at h ⊢
  have h2 : withinB s dst = false:=by
   have h' : (!withinB s dst) = true:=h
   simpa using h'
  show carryS s dst fr = _
  rw [carry_no h2,h1]
  rfl

def ruleS (p q : S25) : S25 × S25 × Bool :=
 if p.f0 = 10 then
  if q.f0 = 10 then (p,q,apartL (pathsS p) (pathsS q))
  else if 7 ≤ q.f0 then (p,{ q with f1:=(carryS q.f1 p.f2 p.f1).1 },(carryS q.f1 p.f2 p.f1).2)
  else (p,q,apartL (pathsS p) (pathsS q))
 else if 7 ≤ p.f0 then
  if q.f0 = 10 then ({ p with f1:=(carryS p.f1 q.f1 q.f2).1 },q,(carryS p.f1 q.f1 q.f2).2)
  else if 7 ≤ q.f0 then bothS p q
  else (p,q,p.f1.toList != q.f1.toList)
 else
  if q.f0 = 10 then (p,q,apartL (pathsS p) (pathsS q))
  else if 7 ≤ q.f0 then (p,q,p.f1.toList != q.f1.toList)
  else (p,q,apartL (pathsS p) (pathsS q))
def comm (p q : S25) : S25 × S25 × Bool :=
 if primB p = true ∧ primB q = true ∧ (ruleS p q).2.2 = true ∧ primB (ruleS p q).1 = true ∧ primB (ruleS p q).2.1 = true then ((ruleS p q).2.1,(ruleS p q).1,true) else (z25,z25,false)
structure Yes (p q a b : S25) : Prop where
 hp : primB p = true
 hq : primB q = true
 ha : primB a = true
 hb : primB b = true
 r : ruleS p q = (b,a,true)
theorem comm_of {p q a b : S25} (h : Yes p q a b) : comm p q = (a,b,true):=by
 unfold comm
 rw [h.r]
 exact if_pos ⟨h.hp,h.hq,rfl,h.hb,h.ha⟩
theorem comm_or (p q : S25) : comm p q = (z25,z25,false) ∨ ∃ a b,Yes p q a b ∧ comm p q = (a,b,true):=by
 by_cases h : primB p = true ∧ primB q = true ∧ (ruleS p q).2.2 = true ∧ primB (ruleS p q).1 = true ∧ primB (ruleS p q).2.1 = true
 ·refine .inr ⟨(ruleS p q).2.1,(ruleS p q).1,⟨h.1,h.2.1,h.2.2.2.2,h.2.2.2.1,?_⟩,if_pos h⟩
  have e : ruleS p q = ((ruleS p q).1,(ruleS p q).2.1,(ruleS p q).2.2):=rfl
  rw [h.2.2.1] at e
  exact e
 ·exact .inl (if_neg h)
structure Rt (x : S25) : Prop where
 lo : 1 ≤ x.f0
 hi : x.f0 ≤ 10
 a0 : 0 ≤ x.f4
 a1 : x.f4 ≤ 1073741824
theorem rt_of {x : S25} (h : primB x = true) : Rt x:=by
 obtain ⟨h1,h2⟩:=primB_lo h
 have h4 : 0 ≤ x.f4 ∧ x.f4 ≤ 1073741824:=by
  by_cases h7 : x.f0 = 7
  ·unfold primB kindB at h
   rw [if_neg (by omega),if_neg (by omega)] at h
   by_cases h3 : x.f3.toList = ([] : List UInt8)
   ·rw [if_pos h3,if_neg (by omega),if_pos h7] at h
    simp only [Bool.and_eq_true,decide_eq_true_eq] at h
    omega
   ·rw [if_neg h3,Bool.and_false] at h
    cases h
  ·unfold primB listedB at h
   have hn : (x.f0 != 7) = true:=by simpa using h7
   rw [hn,Bool.and_true] at h
   simp only [Bool.and_eq_true,Bool.not_eq_true',Bool.or_eq_false_iff] at h
   have : x.f4 = 0:=by simpa using h.1.2.2
   omega
 exact ⟨h1,h2,h4.1,h4.2⟩
theorem apartL_comm (a b : List ByteArray) : apartL a b = apartL b a:=by
 apply Bool.eq_iff_iff.2
 simp only [apartL,List.all_eq_true]
 exact ⟨fun h y hy x hx => (apart_comm _ _).trans (h x hx y hy),fun h x hx y hy => (apart_comm _ _).trans (h y hy x hx)⟩
theorem bne_comm (a b : List UInt8) : (a != b) = (b != a):=bne_comm' a b
theorem both_back {p q a b : S25} (hp : Rt p) (hq : Rt q) (sp : Ok24 p) (sq : Ok24 q) (h : bothS p q = (b,a,true)) : bothS a b = (q,p,true):=by
 obtain ⟨p0,p1,p2,p3,p4,p5,p6⟩:=p
 obtain ⟨q0,q1,q2,q3,q4,q5,q6⟩:=q
 obtain ⟨-,-,hp0,hp1⟩:=hp
 obtain ⟨-,-,hq0,hq1⟩:=hq
 obtain ⟨sp5,sp6⟩:=sp
 obtain ⟨sq5,sq6⟩:=sq
 dsimp only at hp0 hp1 hq0 hq1 sp5 sp6 sq5 sq6
 unfold bothS at h
 dsimp only at h
 have e1 : wrap64 (q4 - (p6.length : Int)) = q4 - (p6.length : Int):=wrap_id (by omega) (by omega)
 have e2 : wrap64 (p4 - (q5.length : Int)) = p4 - (q5.length : Int):=wrap_id (by omega) (by omega)
 have e3 : wrap64 ((p5.length : Int) - (p6.length : Int)) = (p5.length : Int) - (p6.length : Int):=wrap_id (by omega) (by omega)
 have e4 : wrap64 (q4 + ((p5.length : Int) - (p6.length : Int))) = q4 + ((p5.length : Int) - (p6.length : Int)):=wrap_id (by omega) (by omega)
 have e5 : wrap64 ((q6.length : Int) - (q5.length : Int)) = (q6.length : Int) - (q5.length : Int):=wrap_id (by omega) (by omega)
 have e6 : wrap64 (p4 + ((q6.length : Int) - (q5.length : Int))) = p4 + ((q6.length : Int) - (q5.length : Int)):=wrap_id (by omega) (by omega)
 rw [e1,e2,e3,e4,e5,e6] at h
 by_cases h1 : p1.toList = q1.toList
 ·rw [if_pos h1] at h
  by_cases h7 : p0 = 7 ∧ q0 = 7
  ·rw [if_pos h7] at h
   by_cases c1 : q4 - (p6.length : Int) > p4
   ·rw [if_pos c1] at h
    simp only [Prod.mk.injEq] at h
    obtain ⟨rfl,rfl,-⟩:=h
    unfold bothS
    dsimp only
    have f1 : wrap64 (p4 - (q6.length : Int)) = p4 - (q6.length : Int):=wrap_id (by omega) (by omega)
    have f2 : wrap64 (q4 + ((p5.length : Int) - (p6.length : Int)) - (p5.length : Int)) = q4 - (p6.length : Int):=by rw [wrap_id (by omega) (by omega)]; omega
    have f3 : wrap64 ((p6.length : Int) - (p5.length : Int)) = (p6.length : Int) - (p5.length : Int):=wrap_id (by omega) (by omega)
    have f4 : wrap64 (q4 + ((p5.length : Int) - (p6.length : Int)) + ((p6.length : Int) - (p5.length : Int))) = q4:=by rw [wrap_id (by omega) (by omega)]; omega
    rw [f1,f2,f3,f4,if_pos h1.symm,if_pos ⟨h7.2,h7.1⟩,if_neg (by omega),if_pos c1]
   ·rw [if_neg c1] at h
    by_cases c2 : p4 - (q5.length : Int) > q4
    ·rw [if_pos c2] at h
     simp only [Prod.mk.injEq] at h
     obtain ⟨rfl,rfl,-⟩:=h
     unfold bothS
     dsimp only
     have f1 : wrap64 (p4 + ((q6.length : Int) - (q5.length : Int)) - (q6.length : Int)) = p4 - (q5.length : Int):=by rw [wrap_id (by omega) (by omega)]; omega
     have f3 : wrap64 ((q5.length : Int) - (q6.length : Int)) = (q5.length : Int) - (q6.length : Int):=wrap_id (by omega) (by omega)
     have f4 : wrap64 (p4 + ((q6.length : Int) - (q5.length : Int)) + ((q5.length : Int) - (q6.length : Int))) = p4:=by rw [wrap_id (by omega) (by omega)]; omega
     rw [f1,f3,f4,if_pos h1.symm,if_pos ⟨h7.2,h7.1⟩,if_pos c2]
    ·rw [if_neg c2] at h
     simp at h
  ·rw [if_neg h7] at h
   simp at h
 ·rw [if_neg h1] at h
  simp only [Prod.mk.injEq] at h
  obtain ⟨rfl,rfl,-⟩:=h
  unfold bothS
  dsimp only
  rw [if_neg (fun e => h1 e.symm)]
theorem prod3 {α β γ : Type} {a a' : α} {b b' : β} {c c' : γ} (h : (a,b,c) = (a',b',c')) : a = a' ∧ b = b' ∧ c = c':=by
 cases h
 exact ⟨rfl,rfl,rfl⟩
theorem both_kind {p q a b : S25} (h : bothS p q = (b,a,true)) : b.f0 = p.f0 ∧ a.f0 = q.f0:=by
 unfold bothS at h
 repeat' split at h
 all_goals first
  | (obtain ⟨rfl,rfl,-⟩:=prod3 h; exact ⟨rfl,rfl⟩)
  | (have:=(prod3 h).2.2; cases this)
theorem rule_back {p q a b : S25} (hp : Rt p) (hq : Rt q) (sp : Ok24 p) (sq : Ok24 q) (h : ruleS p q = (b,a,true)) : ruleS a b = (q,p,true):=by
 unfold ruleS at h
 by_cases cp : p.f0 = 10
 ·rw [if_pos cp] at h
  by_cases cq : q.f0 = 10
  ·rw [if_pos cq] at h
   obtain ⟨rfl,rfl,hl⟩:=prod3 h
   unfold ruleS
   rw [if_pos cq,if_pos cp,apartL_comm,hl]
  ·rw [if_neg cq] at h
   by_cases dq : 7 ≤ q.f0
   ·rw [if_pos dq] at h
    obtain ⟨rfl,rfl,hl⟩:=prod3 h
    unfold ruleS
    dsimp only
    rw [if_neg cq,if_pos dq,if_pos cp,carry_back hl]
   ·rw [if_neg dq] at h
    obtain ⟨rfl,rfl,hl⟩:=prod3 h
    unfold ruleS
    rw [if_neg cq,if_neg dq,if_pos cp,apartL_comm,hl]
 ·rw [if_neg cp] at h
  by_cases dp : 7 ≤ p.f0
  ·rw [if_pos dp] at h
   by_cases cq : q.f0 = 10
   ·rw [if_pos cq] at h
    obtain ⟨rfl,rfl,hl⟩:=prod3 h
    unfold ruleS
    dsimp only
    rw [if_pos cq,if_neg cp,if_pos dp,carry_back hl]
   ·rw [if_neg cq] at h
    by_cases dq : 7 ≤ q.f0
    ·rw [if_pos dq] at h
     have hb:=both_back hp hq sp sq h
     have k:=both_kind h
     unfold ruleS
     rw [k.2,k.1,if_neg cq,if_pos dq,if_neg cp,if_pos dp,hb]
    ·rw [if_neg dq] at h
     obtain ⟨rfl,rfl,hl⟩:=prod3 h
     unfold ruleS
     rw [if_neg cq,if_neg dq,if_neg cp,if_pos dp,bne_comm,hl]
  ·rw [if_neg dp] at h
   by_cases cq : q.f0 = 10
   ·rw [if_pos cq] at h
    obtain ⟨rfl,rfl,hl⟩:=prod3 h
    unfold ruleS
    rw [if_pos cq,if_neg cp,if_neg dp,apartL_comm,hl]
   ·rw [if_neg cq] at h
    by_cases dq : 7 ≤ q.f0
    ·rw [if_pos dq] at h
     obtain ⟨rfl,rfl,hl⟩:=prod3 h
     unfold ruleS
     rw [if_neg cq,if_pos dq,if_neg cp,if_neg dp,bne_comm,hl]
    ·rw [if_neg dq] at h
     obtain ⟨rfl,rfl,hl⟩:=prod3 h
     unfold ruleS
     rw [if_neg cq,if_neg dq,if_neg cp,if_neg dp,apartL_comm,hl]
theorem yes_back {p q a b : S25} (sp : Ok24 p) (sq : Ok24 q) (h : Yes p q a b) : Yes a b p q:=⟨h.ha,h.hb,h.hp,h.hq,rule_back (rt_of h.hp) (rt_of h.hq) sp sq h.r⟩

theorem prim_f1 {x : S25} (h : primB x = true) : x.f1.size ≤ 136:=by
 unfold primB at h
 simp only [Bool.and_eq_true] at h
 exact right_size h.1.1
theorem prim_f2 {x : S25} (h : primB x = true) (h10 : x.f0 = 10) : x.f2.size ≤ 136:=by
 unfold primB kindB at h
 rw [if_neg (by omega),if_neg (by omega)] at h
 by_cases h3 : x.f3.toList = ([] : List UInt8)
 ·rw [if_pos h3,if_pos h10] at h
  simp only [Bool.and_eq_true] at h
  exact right_size h.2.1
 ·rw [if_neg h3,Bool.and_false] at h
  cases h
theorem rule_keep {p q a b : S25} {r : Bool} (h : ruleS p q = (b,a,r)) : b = { p with f1:=b.f1,f4:=b.f4 } ∧ a = { q with f1:=a.f1,f4:=a.f4 }:=by
 unfold ruleS bothS at h
 repeat' split at h
 all_goals
  obtain ⟨rfl,rfl,-⟩:=prod3 h
  exact ⟨rfl,rfl⟩
theorem carry_size (s fr dst : ByteArray) : (carryS s fr dst).1.size ≤ dst.size + s.size:=by
 unfold carryS
 split
 ·show (dst ++ s.extract fr.size s.size).size ≤ _
  rw [ByteArray.size_append,ByteArray.size_extract]
  omega
 ·show s.size ≤ _
  omega
theorem both_f1 (p q : S25) : (bothS p q).1.f1 = p.f1 ∧ (bothS p q).2.1.f1 = q.f1:=by
 unfold bothS
 repeat' split
 all_goals exact ⟨rfl,rfl⟩
theorem rule_f1 {p q : S25} (hp : primB p = true) (hq : primB q = true) : (ruleS p q).1.f1.size ≤ 272 ∧ (ruleS p q).2.1.f1.size ≤ 272:=by
 have h1:=prim_f1 hp
 have h2:=prim_f1 hq
 have z : ∀ r : S25 × S25 × Bool,r.1.f1 = p.f1 ∧ r.2.1.f1 = q.f1 → r.1.f1.size ≤ 272 ∧ r.2.1.f1.size ≤ 272:=fun r h => by rw [h.1,h.2]; omega
 unfold ruleS
 by_cases cp : p.f0 = 10
 ·rw [if_pos cp]
  by_cases cq : q.f0 = 10
  ·rw [if_pos cq]
   exact z _ ⟨rfl,rfl⟩
  ·rw [if_neg cq]
   by_cases dq : 7 ≤ q.f0
   ·rw [if_pos dq]
    refine ⟨by show p.f1.size ≤ _; omega,?_⟩
    have:=carry_size q.f1 p.f2 p.f1
    show (carryS q.f1 p.f2 p.f1).1.size ≤ _
    omega
   ·rw [if_neg dq]
    exact z _ ⟨rfl,rfl⟩
 ·rw [if_neg cp]
  by_cases dp : 7 ≤ p.f0
  ·rw [if_pos dp]
   by_cases cq : q.f0 = 10
   ·rw [if_pos cq]
    refine ⟨?_,by show q.f1.size ≤ _; omega⟩
    have:=carry_size p.f1 q.f1 q.f2
    have:=prim_f2 hq cq
    show (carryS p.f1 q.f1 q.f2).1.size ≤ _
    omega
   ·rw [if_neg cq]
    by_cases dq : 7 ≤ q.f0
    ·rw [if_pos dq]
     exact z _ (both_f1 p q)
    ·rw [if_neg dq]
     exact z _ ⟨rfl,rfl⟩
  ·rw [if_neg dp]
   repeat' split
   all_goals exact z _ ⟨rfl,rfl⟩
theorem okp_rule {p q a b : S25} {r : Bool} (h : ruleS p q = (b,a,r)) (hp : primB p = true) (hq : primB q = true) (sp : Okp p) (sq : Okp q) : Okp b ∧ Okp a:=by
 have hf:=rule_f1 hp hq
 rw [h] at hf
 obtain ⟨h1,h2⟩:=rule_keep h
 obtain ⟨f1,f2⟩:=hf
 dsimp only at f1 f2
 constructor
 ·rw [h1]
  exact ⟨sp.ok,by show b.f1.size ≤ _; omega,sp.s2,sp.s3⟩
 ·rw [h2]
  exact ⟨sq.ok,by show a.f1.size ≤ _; omega,sq.s2,sq.s3⟩
theorem okp_yes {p q a b : S25} (h : Yes p q a b) (hp : Okp p) (hq : Okp q) : Okp a ∧ Okp b:=by
 obtain ⟨h1,h2⟩:=rule_keep h.r
 have ha:=prim_f1 h.ha
 have hb:=prim_f1 h.hb
 constructor
 ·rw [h2]
  exact ⟨hq.ok,by show a.f1.size ≤ _; omega,hq.s2,hq.s3⟩
 ·rw [h1]
  exact ⟨hp.ok,by show b.f1.size ≤ _; omega,hp.s2,hp.s3⟩
def pastS : S25 → List S25 → Option (List S25 × S25)
 | p,[] => some ([],p)
 | p,x :: l => if (comm p x).2.2 = true then (pastS (comm p x).2.1 l).map (fun r => ((comm p x).1 :: r.1,r.2)) else none
def past (p : S25) (l : List S25) : List S25 × S25 × Bool:=match pastS p l with
 | some r => (r.1,r.2,true)
 | none => ([],z25,false)
theorem pastS_append : ∀ (a : List S25) (p : S25) (b : List S25),pastS p (a ++ b) = (pastS p a).bind (fun y => (pastS y.2 b).map (fun z => (y.1 ++ z.1,z.2)))
 | [],p,b => by
  show pastS p b = _
  simp only [pastS,Option.bind_some]
  cases pastS p b with
  | none => rfl
  | some z => rfl
 | x :: a,p,b => by
  simp only [List.cons_append,pastS]
  by_cases h : (comm p x).2.2 = true
  ·rw [if_pos h,if_pos h,pastS_append a]
   cases pastS (comm p x).2.1 a with
   | none => rfl
   | some y =>
    simp only [Option.map_some,Option.bind_some]
    cases pastS y.2 b with
    | none => rfl
    | some z => rfl
  ·rw [if_neg h,if_neg h]
   rfl
def swapS : List S25 → List S25 → Option (List S25 × List S25)
 | [],b => some (b,[])
 | p :: a,b => (swapS a b).bind fun z => (pastS p z.1).map fun y => (y.1,y.2 :: z.2)
theorem pastS_nil (p : S25) : pastS p [] = some ([],p):=rfl
theorem swap_nil : ∀ a : List S25,swapS a [] = some ([],a)
 | [] => rfl
 | p :: a => by rw [swapS,swap_nil a]; rfl
def eqS (x y : S25) : Bool:=eqL x.f5 y.f5 && eqL x.f6 y.f6 && decide (x.f0 = y.f0) && decide (x.f1.toList = y.f1.toList) && decide (x.f2.toList = y.f2.toList) && decide (x.f3.toList = y.f3.toList) && decide (x.f4 = y.f4)
theorem eqS_iff (x y : S25) : eqS x y = true ↔ x = y:=by
 constructor
 ·intro h
  unfold eqS at h
  simp only [Bool.and_eq_true,decide_eq_true_eq,eqL_iff] at h
  obtain ⟨⟨⟨⟨⟨⟨h5,h6⟩,h0⟩,h1⟩,h2⟩,h3⟩,h4⟩:=h
  obtain ⟨x0,x1,x2,x3,x4,x5,x6⟩:=x
  obtain ⟨y0,y1,y2,y3,y4,y5,y6⟩:=y
  dsimp only at h0 h1 h2 h3 h4 h5 h6
  rw [h0,toList_inj h1,toList_inj h2,toList_inj h3,h4,h5,h6]
 ·rintro rfl
  unfold eqS
  simp only [Bool.and_eq_true,decide_eq_true_eq,eqL_iff,and_self]

def hereB (p q : S25) : Bool:=decide (p.f0 = q.f0) && decide (p.f1.toList = q.f1.toList)
def joinS (p q : S25) : Option (Option S25) :=
 if primB p = true ∧ primB q = true then
  if eqS (invS p) q = true then some none
  else if hereB p q = true ∧ p.f0 = 9 ∧ q.f3.toList = p.f2.toList then some (some { p with f2:=q.f2 })
  else if hereB p q = true ∧ p.f0 = 7 ∧ p.f4 = q.f4 ∧ eqL p.f6 q.f5 = true then some (some { p with f6:=q.f6 })
  else if p.f0 = 10 ∧ q.f0 = 10 ∧ q.f1.toList = p.f2.toList ∧ apartB p.f1 q.f2 = true then some (some { p with f2:=q.f2 })
  else none
 else none
def putS : List S25 → S25 → List S25
 | [],p => [p]
 | t :: r,p => match joinS t p with
  | none => p :: t :: r
  | some none => r
  | some (some x) => putS r x
def stackS (s l : List S25) : List S25:=l.foldl putS s
def coalS (l : List S25) : List S25:=(stackS [] l).reverse
theorem prim_parts {x : S25} (h : primB x = true) : rightB x.f1 = true ∧ (listedB x && x.f0 != 7) = false ∧ kindB x = true:=by
 unfold primB at h
 simp only [Bool.and_eq_true,Bool.not_eq_true'] at h
 exact ⟨h.1.1,h.1.2,h.2⟩
theorem unlisted {x : S25} (h : primB x = true) (h7 : ¬ x.f0 = 7) : x.f5 = [] ∧ x.f6 = [] ∧ x.f4 = 0:=by
 have hl:=(prim_parts h).2.1
 rw [show (x.f0 != 7) = true from by simpa using h7,Bool.and_true] at hl
 unfold listedB at hl
 simp only [Bool.or_eq_false_iff,decide_eq_false_iff_not] at hl
 have e4 : x.f4 = 0:=by simpa using hl.2
 refine ⟨List.length_eq_zero_iff.1 (by omega),List.length_eq_zero_iff.1 (by omega),e4⟩
theorem empty_of {s : ByteArray} (h : s.toList = ([] : List UInt8)) : s = ⟨#[]⟩:=by
 apply data_inj
 rw [← toList_data,h]
theorem prim_nine {x : S25} (h : primB x = true) (h9 : x.f0 = 9) : (x.f3.toList != x.f2.toList) = true ∧ x.f5 = [] ∧ x.f6 = [] ∧ x.f4 = 0:=by
 obtain ⟨e5,e6,e4⟩:=unlisted h (by omega)
 have hk:=(prim_parts h).2.2
 unfold kindB at hk
 rw [if_neg (by omega),if_pos h9] at hk
 exact ⟨hk,e5,e6,e4⟩
theorem prim_seven {x : S25} (h : primB x = true) (h7 : x.f0 = 7) : x.f3 = ⟨#[]⟩ ∧ x.f2 = ⟨#[]⟩ ∧ 0 ≤ x.f4 ∧ x.f4 ≤ 1073741824 ∧ linesB x.f5 = true ∧ linesB x.f6 = true ∧ 0 < x.f5.length + x.f6.length:=by
 have hk:=(prim_parts h).2.2
 unfold kindB at hk
 rw [if_neg (by omega),if_neg (by omega)] at hk
 by_cases h3 : x.f3.toList = ([] : List UInt8)
 ·rw [if_pos h3,if_neg (by omega),if_pos h7] at hk
  simp only [Bool.and_eq_true,decide_eq_true_eq] at hk
  exact ⟨empty_of h3,empty_of hk.1.1.1.1.1,hk.1.1.1.1.2,hk.1.1.1.2,hk.1.1.2,hk.1.2,hk.2⟩
 ·rw [if_neg h3] at hk
  cases hk
theorem prim_ten {x : S25} (h : primB x = true) (h10 : x.f0 = 10) : x.f3 = ⟨#[]⟩ ∧ rightB x.f2 = true ∧ apartB x.f1 x.f2 = true ∧ x.f5 = [] ∧ x.f6 = [] ∧ x.f4 = 0:=by
 obtain ⟨e5,e6,e4⟩:=unlisted h (by omega)
 have hk:=(prim_parts h).2.2
 unfold kindB at hk
 rw [if_neg (by omega),if_neg (by omega)] at hk
 by_cases h3 : x.f3.toList = ([] : List UInt8)
 ·rw [if_pos h3,if_pos h10] at hk
  simp only [Bool.and_eq_true] at hk
  exact ⟨empty_of h3,hk.1,hk.2,e5,e6,e4⟩
 ·rw [if_neg h3] at hk
  cases hk
theorem here_of {p q : S25} (h : hereB p q = true) : p.f0 = q.f0 ∧ p.f1 = q.f1:=by
 unfold hereB at h
 simp only [Bool.and_eq_true,decide_eq_true_eq] at h
 exact ⟨h.1,toList_inj h.2⟩
theorem join_right {p q x : S25} (h : joinS p q = some (some x)) : primB x = true:=by
 unfold joinS at h
 split at h
 ·rename_i hr
  obtain ⟨hp,hq⟩:=hr
  split at h
  ·cases h
  ·rename_i hne
   have hne' : invS p ≠ q:=fun e => hne ((eqS_iff _ _).2 e)
   split at h
   ·rename_i hc
    obtain ⟨hh,h9,hf⟩:=hc
    obtain ⟨e0,e1⟩:=here_of hh
    obtain ⟨hb,p5,p6,p4⟩:=prim_nine hp h9
    obtain ⟨hb',q5,q6,q4⟩:=prim_nine hq (e0.symm.trans h9)
    simp only [Option.some.injEq] at h
    subst h
    have hx : (p.f3.toList != q.f2.toList) = true:=by
     rw [bne_iff_ne]
     intro e
     refine hne' ?_
     obtain ⟨a0,a1,a2,a3,a4,a5,a6⟩:=p
     obtain ⟨b0,b1,b2,b3,b4,b5,b6⟩:=q
     dsimp only at h9 e0 e1 hf e p5 p6 p4 q5 q6 q4
     subst h9 e0 e1 p5 p6 p4 q5 q6 q4
     have h1:=toList_inj e
     have h2:=toList_inj hf
     subst h1 h2
     rfl
    unfold primB kindB listedB
    dsimp only
    rw [if_neg (by omega),if_pos h9,(prim_parts hp).1,p5,p6,p4,hx]
    rfl
   ·split at h
    ·rename_i hc
     obtain ⟨hh,h7,h4,hl⟩:=hc
     obtain ⟨e0,e1⟩:=here_of hh
     obtain ⟨p3,p2,p40,p41,pl5,pl6,pl⟩:=prim_seven hp h7
     obtain ⟨q3,q2,q40,q41,ql5,ql6,ql⟩:=prim_seven hq (e0.symm.trans h7)
     simp only [Option.some.injEq] at h
     subst h
     have hlen : 0 < p.f5.length + q.f6.length:=by
      apply Nat.pos_of_ne_zero
      intro e
      refine hne' ?_
      have e5 : p.f5 = []:=List.length_eq_zero_iff.1 (by omega)
      have e6 : q.f6 = []:=List.length_eq_zero_iff.1 (by omega)
      have el:=(eqL_iff _ _).1 hl
      obtain ⟨a0,a1,a2,a3,a4,a5,a6⟩:=p
      obtain ⟨b0,b1,b2,b3,b4,b5,b6⟩:=q
      dsimp only at h7 e0 e1 h4 p3 p2 q3 q2 e5 e6 el
      subst h7 e0 e1 h4 p3 p2 q3 q2 e5 e6 el
      rfl
     unfold primB kindB
     dsimp only
     rw [if_neg (by omega),if_neg (by omega),p3,p2,if_pos (by rw [toList_data]),if_neg (by omega),if_pos h7,(prim_parts hp).1,h7,pl5,ql6]
     have e : (⟨#[]⟩ : ByteArray).toList = ([] : List UInt8):=by rw [toList_data]
     simp [e,p40,p41,hlen]
    ·split at h
     ·rename_i hc
      obtain ⟨h10,g10,hf,ha⟩:=hc
      obtain ⟨p3,p2,pa,p5,p6,p4⟩:=prim_ten hp h10
      obtain ⟨q3,q2,qa,q5,q6,q4⟩:=prim_ten hq g10
      simp only [Option.some.injEq] at h
      subst h
      unfold primB kindB listedB
      dsimp only
      rw [if_neg (by omega),if_neg (by omega),p3,if_pos (by rw [toList_data]),if_pos h10,(prim_parts hp).1,p5,p6,p4,q2,ha]
      rfl
     ·cases h
 ·cases h
end Go.Proofs.YthhohbidjhcjeaaGreatDoor.Pl
namespace Go.Proofs.YthhohbidjhcjeaaGreatDoor.H
open Go.RowKit Go.Proofs.YthhohbidjhcjeaaGreatDoorW.PrintWords Go.Proofs.YthhohbidjhcjeaaGreatDoorW.PrintLast Go.Proofs.YthhohbidjhcjeaaGreatDoorW.PrintMore
open Go.Proofs.YthhohbidjhcjeaaGreatDoor.Q Go.Proofs.YthhohbidjhcjeaaGreatDoor.Pl
theorem tkV {P : Program} {md : Region.Mode} {ops : Array Oper} {Q : Exit → Act → World → Prop} {oi : Oper} {v : Value} {fuel : Nat} {listed : Array Bool} {a : Act} {w : World} (i : Nat) (N : Option Tmp) (hi : ops[i]? = some oi) (hN : oi.dst = N)
  (hc : (Region.noSelect ops && Region.free md ops listed i && (Region.ready md ops listed).contains i) = true) (hw : Region.wanted oi (yielded ops a.tmps) = true) (hy : ∀ w,(execOp a.eval oi).run P w = .ok (.value v) w)
  (h : wpAnyH P md ops Q (fun _ => True) fuel (listed.setIfInBounds i true) (a.put N v) w) (hQ : ∀ c a w,Q (.panic c) (a.put N v) w → Q (.panic c) a w:=by exact fun _ _ _ h => h) : wpAnyH P md ops Q (fun _ => True) (fuel + 1) listed a w:=by
 subst hN
 simp only [Bool.and_eq_true] at hc
 exact wpAnyH_take hi hc.1.1 hc.1.2 hc.2 hQ (Or.inl ⟨hw,fun w _ => hy w⟩) trivial h
theorem tkS {P : Program} {md : Region.Mode} {ops : Array Oper} {Q : Exit → Act → World → Prop} {oi : Oper} {fuel : Nat} {listed : Array Bool} {a : Act} {w : World} (i : Nat) (N : Option Tmp) (hi : ops[i]? = some oi) (hN : oi.dst = N)
  (hc : (Region.noSelect ops && Region.free md ops listed i && (Region.ready md ops listed).contains i) = true) (hw : Region.wanted oi (yielded ops a.tmps) = false)
  (h : wpAnyH P md ops Q (fun _ => True) fuel (listed.setIfInBounds i true) (a.put N undef) w) (hQ : ∀ c a w,Q (.panic c) (a.put N undef) w → Q (.panic c) a w:=by exact fun _ _ _ h => h) : wpAnyH P md ops Q (fun _ => True) (fuel + 1) listed a w:=by
 subst hN
 simp only [Bool.and_eq_true] at hc
 exact wpAnyH_take hi hc.1.1 hc.1.2 hc.2 hQ (Or.inr ⟨hw,rfl⟩) trivial h
theorem wpAnyH_at {P : Program} {md : Region.Mode} {ops : Array Oper} {Q : Exit → Act → World → Prop} {S : World → Prop} {fuel : Nat} {l l' : Array Bool} {a : Act} {w : World} (h : l = l') (hh : wpAnyH P md ops Q S fuel l' a w) : wpAnyH P md ops Q S fuel l a w:=h ▸ hh
def CmPost (w : World) (a b : S25) (A5 : Option Addr) (c5 : Nat) (A6 : Option Addr) (c6 : Nat) (B5 : Option Addr) (d5 : Nat) (B6 : Option Addr) (d6 : Nat) : Bool → Bool → Bool → Ending → World → Prop
 | true,true,true,e,w' => e = .returned (.tuple #[.agg (cs a B5 d5 B6 d6),.agg (cs b A5 c5 A6 c6),.bool true]) ∧ Below w.heap.size w w'
 | _,_,_,e,w' => e = .returned (.tuple #[.agg zeroC,.agg zeroC,.bool false]) ∧ Below w.heap.size w w'
set_option maxHeartbeats 8000000 in
set_option maxRecDepth 100000 in
theorem comm_np (p q : S25) (A5 : Option Addr) (c5 : Nat) (A6 : Option Addr) (c6 : Nat) (B5 : Option Addr) (d5 : Nat) (B6 : Option Addr) (d6 : Nat) (w : World) (hp : Okp p) (rp : Rd w p A5 c5 A6 c6) (b1 : primB p = false) :
  Calls Tryz.prog 42 #[.agg (cs p A5 c5 A6 c6),.agg (cs q B5 d5 B6 d6)] w fun e w' => e = .returned (.tuple #[.agg zeroC,.agg zeroC,.bool false]) ∧ Below w.heap.size w w':=by
 have RP : ∀ cp cq W,St w cp cq W → Calls Tryz.prog 25 #[.agg (cs p A5 c5 A6 c6)] W fun e W' => e = .returned (.bool false) ∧ St w cp cq W':=fun cp cq W h => by
  have h2:=right_st p A5 c5 A6 c6 w W cp cq hp rp h
  rwa [b1] at h2
 go_enter Tryz.func42,Tryz.ntmps42
 go_wp2
 have hst:=(St.start w (cs p A5 c5 A6 c6) (cs q B5 d5 B6 d6)).drew
 refine wp_region_held_drew (S:=fun _ => True) (by kernel_rfl) trivial (fun _ => ?_)
 apply cutG (S:=St w (cs p A5 c5 A6 c6) (cs q B5 d5 B6 d6))
 ·exact fun tail => tail _ hst
 clear hst
 intro w1 hst
 obtain ⟨pc0,pc1,pc2,pc3,pc4,pc5,pc6⟩:=cells7 hst.p
 refine wpAnyH_ready (rs:=[0]) (by kernel_rfl) (by simp) (AllReadyH.cons rfl (fun K hK => ?_) AllReadyH.nil)
 go_simp
 refine hK.out _ _ trivial (fun _ => ?_)
 clear hK K
 clear pc0 pc1 pc2 pc3 pc4 pc5 pc6
 refine wpAnyH_ready (rs:=[1]) (by kernel_rfl) (by simp) (AllReadyH.cons rfl (fun K hK => ?_) AllReadyH.nil)
 go_simp
 refine (RP _ _ _ hst).mono ?_
 rintro e w1 ⟨rfl,hst⟩
 refine hK.out _ _ trivial (fun _ => ?_)
 clear hK K
 refine tkV (v:=?_) 2 (some 9) rfl rfl (by kernel_rfl) rfl (fun W' => ?_) ?_
 rotate_left
 ·go_simp; (try with_reducible rfl)
 simp only [Act.put,List.setIfInBounds_toArray,List.set_cons_zero,List.set_cons_succ]
 refine tkV (v:=?_) 3 (some 10) rfl rfl (by kernel_rfl) rfl (fun W' => ?_) ?_
 rotate_left
 ·go_simp; (try with_reducible rfl)
 simp only [Act.put,List.setIfInBounds_toArray,List.set_cons_zero,List.set_cons_succ]
 refine tkS 4 (some 11) rfl rfl (by kernel_rfl) rfl ?_
 simp only [Act.put,List.setIfInBounds_toArray,List.set_cons_zero,List.set_cons_succ]
 refine tkS 5 (some 12) rfl rfl (by kernel_rfl) rfl ?_
 simp only [Act.put,List.setIfInBounds_toArray,List.set_cons_zero,List.set_cons_succ]
 refine tkS 6 (some 13) rfl rfl (by kernel_rfl) rfl ?_
 simp only [Act.put,List.setIfInBounds_toArray,List.set_cons_zero,List.set_cons_succ]
 refine tkV (v:=?_) 7 (some 14) rfl rfl (by kernel_rfl) rfl (fun W' => ?_) ?_
 rotate_left
 ·go_simp; (try with_reducible rfl)
 simp only [Act.put,List.setIfInBounds_toArray,List.set_cons_zero,List.set_cons_succ]
 refine tkV (v:=?_) 8 (some 15) rfl rfl (by kernel_rfl) rfl (fun W' => ?_) ?_
 rotate_left
 ·go_simp; (try with_reducible rfl)
 simp only [Act.put,List.setIfInBounds_toArray,List.set_cons_zero,List.set_cons_succ]
 refine tkS 9 (some 16) rfl rfl (by kernel_rfl) rfl ?_
 simp only [Act.put,List.setIfInBounds_toArray,List.set_cons_zero,List.set_cons_succ]
 refine tkS 10 (some 17) rfl rfl (by kernel_rfl) rfl ?_
 simp only [Act.put,List.setIfInBounds_toArray,List.set_cons_zero,List.set_cons_succ]
 refine tkS 11 (some 18) rfl rfl (by kernel_rfl) rfl ?_
 simp only [Act.put,List.setIfInBounds_toArray,List.set_cons_zero,List.set_cons_succ]
 refine tkS 12 (some 19) rfl rfl (by kernel_rfl) rfl ?_
 simp only [Act.put,List.setIfInBounds_toArray,List.set_cons_zero,List.set_cons_succ]
 refine tkS 13 (some 20) rfl rfl (by kernel_rfl) rfl ?_
 simp only [Act.put,List.setIfInBounds_toArray,List.set_cons_zero,List.set_cons_succ]
 refine tkS 14 (some 21) rfl rfl (by kernel_rfl) rfl ?_
 simp only [Act.put,List.setIfInBounds_toArray,List.set_cons_zero,List.set_cons_succ]
 refine tkS 15 (some 22) rfl rfl (by kernel_rfl) rfl ?_
 simp only [Act.put,List.setIfInBounds_toArray,List.set_cons_zero,List.set_cons_succ]
 refine tkS 16 (some 23) rfl rfl (by kernel_rfl) rfl ?_
 simp only [Act.put,List.setIfInBounds_toArray,List.set_cons_zero,List.set_cons_succ]
 refine tkS 17 (some 24) rfl rfl (by kernel_rfl) rfl ?_
 simp only [Act.put,List.setIfInBounds_toArray,List.set_cons_zero,List.set_cons_succ]
 refine tkV (v:=?_) 18 (some 25) rfl rfl (by kernel_rfl) rfl (fun W' => ?_) ?_
 rotate_left
 ·go_simp; (try with_reducible rfl)
 simp only [Act.put,List.setIfInBounds_toArray,List.set_cons_zero,List.set_cons_succ]
 refine tkV (v:=?_) 19 (some 26) rfl rfl (by kernel_rfl) rfl (fun W' => ?_) ?_
 rotate_left
 ·go_simp; (try with_reducible rfl)
 simp only [Act.put,List.setIfInBounds_toArray,List.set_cons_zero,List.set_cons_succ]
 refine tkS 20 (some 27) rfl rfl (by kernel_rfl) rfl ?_
 simp only [Act.put,List.setIfInBounds_toArray,List.set_cons_zero,List.set_cons_succ]
 refine tkS 21 (some 28) rfl rfl (by kernel_rfl) rfl ?_
 simp only [Act.put,List.setIfInBounds_toArray,List.set_cons_zero,List.set_cons_succ]
 refine tkS 22 (some 29) rfl rfl (by kernel_rfl) rfl ?_
 simp only [Act.put,List.setIfInBounds_toArray,List.set_cons_zero,List.set_cons_succ]
 refine tkV (v:=?_) 23 (some 30) rfl rfl (by kernel_rfl) rfl (fun W' => ?_) ?_
 rotate_left
 ·go_simp; (try with_reducible rfl)
 simp only [Act.put,List.setIfInBounds_toArray,List.set_cons_zero,List.set_cons_succ]
 refine tkV (v:=?_) 24 (some 31) rfl rfl (by kernel_rfl) rfl (fun W' => ?_) ?_
 rotate_left
 ·go_simp; (try with_reducible rfl)
 simp only [Act.put,List.setIfInBounds_toArray,List.set_cons_zero,List.set_cons_succ]
 refine tkS 25 (some 32) rfl rfl (by kernel_rfl) rfl ?_
 simp only [Act.put,List.setIfInBounds_toArray,List.set_cons_zero,List.set_cons_succ]
 refine tkS 26 (some 33) rfl rfl (by kernel_rfl) rfl ?_
 simp only [Act.put,List.setIfInBounds_toArray,List.set_cons_zero,List.set_cons_succ]
 refine tkS 27 (some 34) rfl rfl (by kernel_rfl) rfl ?_
 simp only [Act.put,List.setIfInBounds_toArray,List.set_cons_zero,List.set_cons_succ]
 refine tkV (v:=?_) 28 (some 35) rfl rfl (by kernel_rfl) rfl (fun W' => ?_) ?_
 rotate_left
 ·go_simp; (try with_reducible rfl)
 simp only [Act.put,List.setIfInBounds_toArray,List.set_cons_zero,List.set_cons_succ]
 refine wpAnyH_done (by kernel_rfl) ?_ _
 obtain ⟨xc0,xc1,xc2,xc3,xc4,xc5,xc6⟩:=cells7 hst.x
 obtain ⟨yc0,yc1,yc2,yc3,yc4,yc5,yc6⟩:=cells7 hst.y
 obtain ⟨pf0,pf1,pf2,pf3,pf4,pf5,pf6⟩:=frozen7 hst.p
 obtain ⟨qf0,qf1,qf2,qf3,qf4,qf5,qf6⟩:=frozen7 hst.q
 obtain ⟨xf0,xf1,xf2,xf3,xf4,xf5,xf6⟩:=frozen7 hst.x
 obtain ⟨yf0,yf1,yf2,yf3,yf4,yf5,yf6⟩:=frozen7 hst.y
 clear RP
 go_wp2
 all_goals
  refine bodyPost_ret (ret24 (gx:=w.heap.size + 1 + 1) (gy:=w.heap.size + 1 + 1 + 1) rfl rfl rfl ?_ ?_) rfl ⟨rfl,?_⟩
  ·exact ((keep7 (by omega) _ _ _ _ _ _ _).trans (set7 hst.x rfl _ _ _ _ _ _ _))
  ·exact (set7 ((keep7 (by omega) _ _ _ _ _ _ _).trans hst.y) rfl _ _ _ _ _ _ _)
  ·exact (below7 (below7 hst.below (by omega) _ _ _ _ _ _ _) (by omega) _ _ _ _ _ _ _)
set_option maxHeartbeats 8000000 in
set_option maxRecDepth 100000 in
theorem comm_nq (p q : S25) (A5 : Option Addr) (c5 : Nat) (A6 : Option Addr) (c6 : Nat) (B5 : Option Addr) (d5 : Nat) (B6 : Option Addr) (d6 : Nat) (w : World) (hp : Okp p) (rp : Rd w p A5 c5 A6 c6) (b1 : primB p = true) (hq : Okp q) (rq : Rd w q B5 d5 B6 d6) (b2 : primB q = false) :
  Calls Tryz.prog 42 #[.agg (cs p A5 c5 A6 c6),.agg (cs q B5 d5 B6 d6)] w fun e w' => e = .returned (.tuple #[.agg zeroC,.agg zeroC,.bool false]) ∧ Below w.heap.size w w':=by
 have RP : ∀ cp cq W,St w cp cq W → Calls Tryz.prog 25 #[.agg (cs p A5 c5 A6 c6)] W fun e W' => e = .returned (.bool true) ∧ St w cp cq W':=fun cp cq W h => by
  have h2:=right_st p A5 c5 A6 c6 w W cp cq hp rp h
  rwa [b1] at h2
 have RQ : ∀ cp cq W,St w cp cq W → Calls Tryz.prog 25 #[.agg (cs q B5 d5 B6 d6)] W fun e W' => e = .returned (.bool false) ∧ St w cp cq W':=fun cp cq W h => by
  have h2:=right_st q B5 d5 B6 d6 w W cp cq hq rq h
  rwa [b2] at h2
 go_enter Tryz.func42,Tryz.ntmps42
 go_wp2
 have hst:=(St.start w (cs p A5 c5 A6 c6) (cs q B5 d5 B6 d6)).drew
 refine wp_region_held_drew (S:=fun _ => True) (by kernel_rfl) trivial (fun _ => ?_)
 apply cutG (S:=St w (cs p A5 c5 A6 c6) (cs q B5 d5 B6 d6))
 ·exact fun tail => tail _ hst
 clear hst
 intro w1 hst
 obtain ⟨pc0,pc1,pc2,pc3,pc4,pc5,pc6⟩:=cells7 hst.p
 refine wpAnyH_ready (rs:=[0]) (by kernel_rfl) (by simp) (AllReadyH.cons rfl (fun K hK => ?_) AllReadyH.nil)
 go_simp
 refine hK.out _ _ trivial (fun _ => ?_)
 clear hK K
 clear pc0 pc1 pc2 pc3 pc4 pc5 pc6
 refine wpAnyH_ready (rs:=[1]) (by kernel_rfl) (by simp) (AllReadyH.cons rfl (fun K hK => ?_) AllReadyH.nil)
 go_simp
 refine (RP _ _ _ hst).mono ?_
 rintro e w1 ⟨rfl,hst⟩
 refine hK.out _ _ trivial (fun _ => ?_)
 clear hK K
 refine tkV (v:=?_) 2 (some 9) rfl rfl (by kernel_rfl) rfl (fun W' => ?_) ?_
 rotate_left
 ·go_simp; (try with_reducible rfl)
 simp only [Act.put,List.setIfInBounds_toArray,List.set_cons_zero,List.set_cons_succ]
 refine tkV (v:=?_) 3 (some 10) rfl rfl (by kernel_rfl) rfl (fun W' => ?_) ?_
 rotate_left
 ·go_simp; (try with_reducible rfl)
 simp only [Act.put,List.setIfInBounds_toArray,List.set_cons_zero,List.set_cons_succ]
 obtain ⟨qc0,qc1,qc2,qc3,qc4,qc5,qc6⟩:=cells7 hst.q
 refine wpAnyH_ready (rs:=[4]) (by kernel_rfl) (by simp) (AllReadyH.cons rfl (fun K hK => ?_) AllReadyH.nil)
 go_simp
 refine hK.out _ _ trivial (fun _ => ?_)
 clear hK K
 clear qc0 qc1 qc2 qc3 qc4 qc5 qc6
 refine wpAnyH_ready (rs:=[5]) (by kernel_rfl) (by simp) (AllReadyH.cons rfl (fun K hK => ?_) AllReadyH.nil)
 go_simp
 refine (RQ _ _ _ hst).mono ?_
 rintro e w1 ⟨rfl,hst⟩
 refine hK.out _ _ trivial (fun _ => ?_)
 clear hK K
 refine tkV (v:=?_) 6 (some 13) rfl rfl (by kernel_rfl) rfl (fun W' => ?_) ?_
 rotate_left
 ·go_simp; (try with_reducible rfl)
 simp only [Act.put,List.setIfInBounds_toArray,List.set_cons_zero,List.set_cons_succ]
 refine tkV (v:=?_) 7 (some 14) rfl rfl (by kernel_rfl) rfl (fun W' => ?_) ?_
 rotate_left
 ·go_simp; (try with_reducible rfl)
 simp only [Act.put,List.setIfInBounds_toArray,List.set_cons_zero,List.set_cons_succ]
 refine tkV (v:=?_) 8 (some 15) rfl rfl (by kernel_rfl) rfl (fun W' => ?_) ?_
 rotate_left
 ·go_simp; (try with_reducible rfl)
 simp only [Act.put,List.setIfInBounds_toArray,List.set_cons_zero,List.set_cons_succ]
 refine tkS 9 (some 16) rfl rfl (by kernel_rfl) rfl ?_
 simp only [Act.put,List.setIfInBounds_toArray,List.set_cons_zero,List.set_cons_succ]
 refine tkS 10 (some 17) rfl rfl (by kernel_rfl) rfl ?_
 simp only [Act.put,List.setIfInBounds_toArray,List.set_cons_zero,List.set_cons_succ]
 refine tkS 11 (some 18) rfl rfl (by kernel_rfl) rfl ?_
 simp only [Act.put,List.setIfInBounds_toArray,List.set_cons_zero,List.set_cons_succ]
 refine tkS 12 (some 19) rfl rfl (by kernel_rfl) rfl ?_
 simp only [Act.put,List.setIfInBounds_toArray,List.set_cons_zero,List.set_cons_succ]
 refine tkS 13 (some 20) rfl rfl (by kernel_rfl) rfl ?_
 simp only [Act.put,List.setIfInBounds_toArray,List.set_cons_zero,List.set_cons_succ]
 refine tkS 14 (some 21) rfl rfl (by kernel_rfl) rfl ?_
 simp only [Act.put,List.setIfInBounds_toArray,List.set_cons_zero,List.set_cons_succ]
 refine tkS 15 (some 22) rfl rfl (by kernel_rfl) rfl ?_
 simp only [Act.put,List.setIfInBounds_toArray,List.set_cons_zero,List.set_cons_succ]
 refine tkS 16 (some 23) rfl rfl (by kernel_rfl) rfl ?_
 simp only [Act.put,List.setIfInBounds_toArray,List.set_cons_zero,List.set_cons_succ]
 refine tkS 17 (some 24) rfl rfl (by kernel_rfl) rfl ?_
 simp only [Act.put,List.setIfInBounds_toArray,List.set_cons_zero,List.set_cons_succ]
 refine tkV (v:=?_) 18 (some 25) rfl rfl (by kernel_rfl) rfl (fun W' => ?_) ?_
 rotate_left
 ·go_simp; (try with_reducible rfl)
 simp only [Act.put,List.setIfInBounds_toArray,List.set_cons_zero,List.set_cons_succ]
 refine tkV (v:=?_) 19 (some 26) rfl rfl (by kernel_rfl) rfl (fun W' => ?_) ?_
 rotate_left
 ·go_simp; (try with_reducible rfl)
 simp only [Act.put,List.setIfInBounds_toArray,List.set_cons_zero,List.set_cons_succ]
 refine tkS 20 (some 27) rfl rfl (by kernel_rfl) rfl ?_
 simp only [Act.put,List.setIfInBounds_toArray,List.set_cons_zero,List.set_cons_succ]
 refine tkS 21 (some 28) rfl rfl (by kernel_rfl) rfl ?_
 simp only [Act.put,List.setIfInBounds_toArray,List.set_cons_zero,List.set_cons_succ]
 refine tkS 22 (some 29) rfl rfl (by kernel_rfl) rfl ?_
 simp only [Act.put,List.setIfInBounds_toArray,List.set_cons_zero,List.set_cons_succ]
 refine tkV (v:=?_) 23 (some 30) rfl rfl (by kernel_rfl) rfl (fun W' => ?_) ?_
 rotate_left
 ·go_simp; (try with_reducible rfl)
 simp only [Act.put,List.setIfInBounds_toArray,List.set_cons_zero,List.set_cons_succ]
 refine tkV (v:=?_) 24 (some 31) rfl rfl (by kernel_rfl) rfl (fun W' => ?_) ?_
 rotate_left
 ·go_simp; (try with_reducible rfl)
 simp only [Act.put,List.setIfInBounds_toArray,List.set_cons_zero,List.set_cons_succ]
 refine tkS 25 (some 32) rfl rfl (by kernel_rfl) rfl ?_
 simp only [Act.put,List.setIfInBounds_toArray,List.set_cons_zero,List.set_cons_succ]
 refine tkS 26 (some 33) rfl rfl (by kernel_rfl) rfl ?_
 simp only [Act.put,List.setIfInBounds_toArray,List.set_cons_zero,List.set_cons_succ]
 refine tkS 27 (some 34) rfl rfl (by kernel_rfl) rfl ?_
 simp only [Act.put,List.setIfInBounds_toArray,List.set_cons_zero,List.set_cons_succ]
 refine tkV (v:=?_) 28 (some 35) rfl rfl (by kernel_rfl) rfl (fun W' => ?_) ?_
 rotate_left
 ·go_simp; (try with_reducible rfl)
 simp only [Act.put,List.setIfInBounds_toArray,List.set_cons_zero,List.set_cons_succ]
 refine wpAnyH_done (by kernel_rfl) ?_ _
 obtain ⟨xc0,xc1,xc2,xc3,xc4,xc5,xc6⟩:=cells7 hst.x
 obtain ⟨yc0,yc1,yc2,yc3,yc4,yc5,yc6⟩:=cells7 hst.y
 obtain ⟨pf0,pf1,pf2,pf3,pf4,pf5,pf6⟩:=frozen7 hst.p
 obtain ⟨qf0,qf1,qf2,qf3,qf4,qf5,qf6⟩:=frozen7 hst.q
 obtain ⟨xf0,xf1,xf2,xf3,xf4,xf5,xf6⟩:=frozen7 hst.x
 obtain ⟨yf0,yf1,yf2,yf3,yf4,yf5,yf6⟩:=frozen7 hst.y
 clear RP RQ
 go_wp2
 all_goals
  refine bodyPost_ret (ret24 (gx:=w.heap.size + 1 + 1) (gy:=w.heap.size + 1 + 1 + 1) rfl rfl rfl ?_ ?_) rfl ⟨rfl,?_⟩
  ·exact ((keep7 (by omega) _ _ _ _ _ _ _).trans (set7 hst.x rfl _ _ _ _ _ _ _))
  ·exact (set7 ((keep7 (by omega) _ _ _ _ _ _ _).trans hst.y) rfl _ _ _ _ _ _ _)
  ·exact (below7 (below7 hst.below (by omega) _ _ _ _ _ _ _) (by omega) _ _ _ _ _ _ _)
set_option maxHeartbeats 8000000 in
set_option maxRecDepth 100000 in
theorem comm_in (p q p2 q2 : S25) (A5 : Option Addr) (c5 : Nat) (A6 : Option Addr) (c6 : Nat) (B5 : Option Addr) (d5 : Nat) (B6 : Option Addr) (d6 : Nat) (w : World) (r x3 x4 : Bool) (hp : Okp p) (rp : Rd w p A5 c5 A6 c6) (b1 : primB p = true) (hq : Okp q) (rq : Rd w q B5 d5 B6 d6) (b2 : primB q = true) (hp2 : Okp p2) (rp2 : Rd w p2 A5 c5 A6 c6) (b3 : primB p2 = x3) (hq2 : Okp q2) (rq2 : Rd w q2 B5 d5 B6 d6) (b4 : primB q2 = x4) (n : Nat) (en : ∀ args w,(callFunc n args).run Tryz.prog w = .ok (.enter n args) w) (row : Array Value) (h70 : ∀ W,(Instr.index 94 (.agg rulesV) (.int .i64 (classS p))).run Tryz.prog W = .ok (.agg row) W) (h69 : ∀ W,(Instr.index 93 (.agg row) (.int .i64 (classS q))).run Tryz.prog W = .ok (.func (.func n) #[] #[]) W)
  (hrule : ∀ W,St w (cs p A5 c5 A6 c6) (cs q B5 d5 B6 d6) W → Calls Tryz.prog n #[.pointer (some ⟨w.heap.size,0,none⟩),.pointer (some ⟨w.heap.size + 1,0,none⟩)] W fun e W' => e = .returned (.bool r) ∧ St w (cs p2 A5 c5 A6 c6) (cs q2 B5 d5 B6 d6) W') :
  Calls Tryz.prog 42 #[.agg (cs p A5 c5 A6 c6),.agg (cs q B5 d5 B6 d6)] w fun e w' => CmPost w q2 p2 A5 c5 A6 c6 B5 d5 B6 d6 r x3 x4 e w':=by
 have RP : ∀ cp cq W,St w cp cq W → Calls Tryz.prog 25 #[.agg (cs p A5 c5 A6 c6)] W fun e W' => e = .returned (.bool true) ∧ St w cp cq W':=fun cp cq W h => by
  have h2:=right_st p A5 c5 A6 c6 w W cp cq hp rp h
  rwa [b1] at h2
 have RQ : ∀ cp cq W,St w cp cq W → Calls Tryz.prog 25 #[.agg (cs q B5 d5 B6 d6)] W fun e W' => e = .returned (.bool true) ∧ St w cp cq W':=fun cp cq W h => by
  have h2:=right_st q B5 d5 B6 d6 w W cp cq hq rq h
  rwa [b2] at h2
 have RP2 : ∀ cp cq W,St w cp cq W → Calls Tryz.prog 25 #[.agg (cs p2 A5 c5 A6 c6)] W fun e W' => e = .returned (.bool x3) ∧ St w cp cq W':=fun cp cq W h => by
  have h2:=right_st p2 A5 c5 A6 c6 w W cp cq hp2 rp2 h
  rwa [b3] at h2
 have RQ2 : ∀ cp cq W,St w cp cq W → Calls Tryz.prog 25 #[.agg (cs q2 B5 d5 B6 d6)] W fun e W' => e = .returned (.bool x4) ∧ St w cp cq W':=fun cp cq W h => by
  have h2:=right_st q2 B5 d5 B6 d6 w W cp cq hq2 rq2 h
  rwa [b4] at h2
 go_enter Tryz.func42,Tryz.ntmps42
 go_wp2
 have hst:=(St.start w (cs p A5 c5 A6 c6) (cs q B5 d5 B6 d6)).drew
 refine wp_region_held_drew (S:=fun _ => True) (by kernel_rfl) trivial (fun _ => ?_)
 apply cutG (S:=St w (cs p A5 c5 A6 c6) (cs q B5 d5 B6 d6))
 ·exact fun tail => tail _ hst
 clear hst
 intro w1 hst
 apply cutG (S:=St w (cs p A5 c5 A6 c6) (cs q B5 d5 B6 d6))
 ·intro tail
  obtain ⟨pc0,pc1,pc2,pc3,pc4,pc5,pc6⟩:=cells7 hst.p
  refine wpAnyH_ready (rs:=[0]) (by kernel_rfl) (by simp) (AllReadyH.cons rfl (fun K hK => ?_) AllReadyH.nil)
  go_simp
  refine hK.out _ _ trivial (fun _ => ?_)
  clear hK K
  clear pc0 pc1 pc2 pc3 pc4 pc5 pc6
  refine wpAnyH_ready (rs:=[1]) (by kernel_rfl) (by simp) (AllReadyH.cons rfl (fun K hK => ?_) AllReadyH.nil)
  go_simp
  refine (RP _ _ _ hst).mono ?_
  rintro e w1 ⟨rfl,hst⟩
  refine hK.out _ _ trivial (fun _ => ?_)
  clear hK K
  refine tkV (v:=?_) 2 (some 9) rfl rfl (by kernel_rfl) rfl (fun W' => ?_) ?_
  rotate_left
  ·go_simp; (try with_reducible rfl)
  simp only [Act.put,List.setIfInBounds_toArray,List.set_cons_zero,List.set_cons_succ]
  refine tkV (v:=?_) 3 (some 10) rfl rfl (by kernel_rfl) rfl (fun W' => ?_) ?_
  rotate_left
  ·go_simp; (try with_reducible rfl)
  simp only [Act.put,List.setIfInBounds_toArray,List.set_cons_zero,List.set_cons_succ]
  obtain ⟨qc0,qc1,qc2,qc3,qc4,qc5,qc6⟩:=cells7 hst.q
  refine wpAnyH_ready (rs:=[4]) (by kernel_rfl) (by simp) (AllReadyH.cons rfl (fun K hK => ?_) AllReadyH.nil)
  go_simp
  refine hK.out _ _ trivial (fun _ => ?_)
  clear hK K
  clear qc0 qc1 qc2 qc3 qc4 qc5 qc6
  refine wpAnyH_ready (rs:=[5]) (by kernel_rfl) (by simp) (AllReadyH.cons rfl (fun K hK => ?_) AllReadyH.nil)
  go_simp
  refine (RQ _ _ _ hst).mono ?_
  rintro e w1 ⟨rfl,hst⟩
  refine hK.out _ _ trivial (fun _ => ?_)
  clear hK K
  refine tkV (v:=?_) 6 (some 13) rfl rfl (by kernel_rfl) rfl (fun W' => ?_) ?_
  rotate_left
  ·go_simp; (try with_reducible rfl)
  simp only [Act.put,List.setIfInBounds_toArray,List.set_cons_zero,List.set_cons_succ]
  refine tkV (v:=?_) 7 (some 14) rfl rfl (by kernel_rfl) rfl (fun W' => ?_) ?_
  rotate_left
  ·go_simp; (try with_reducible rfl)
  simp only [Act.put,List.setIfInBounds_toArray,List.set_cons_zero,List.set_cons_succ]
  refine tkV (v:=?_) 8 (some 15) rfl rfl (by kernel_rfl) rfl (fun W' => ?_) ?_
  rotate_left
  ·go_simp; (try with_reducible rfl)
  simp only [Act.put,List.setIfInBounds_toArray,List.set_cons_zero,List.set_cons_succ]
  obtain ⟨pc0,pc1,pc2,pc3,pc4,pc5,pc6⟩:=cells7 hst.p
  obtain ⟨qc0,qc1,qc2,qc3,qc4,qc5,qc6⟩:=cells7 hst.q
  refine wpAnyH_ready (rs:=[9,10,13]) (by kernel_rfl) (by simp) (AllReadyH.cons rfl (fun K hK => ?_) (AllReadyH.cons rfl (fun K hK => ?_) (AllReadyH.cons rfl (fun K hK => ?_) AllReadyH.nil)))
  ·skip
   go_simp
   refine (rules_st w _ _ _ hst).mono ?_
   rintro e w1 ⟨rfl,hst⟩
   refine hK.out _ _ trivial (fun _ => ?_)
   clear hK K
   clear pc0 pc1 pc2 pc3 pc4 pc5 pc6 qc0 qc1 qc2 qc3 qc4 qc5 qc6
   obtain ⟨pc0,pc1,pc2,pc3,pc4,pc5,pc6⟩:=cells7 hst.p
   obtain ⟨qc0,qc1,qc2,qc3,qc4,qc5,qc6⟩:=cells7 hst.q
   refine wpAnyH_ready (rs:=[10,13]) (by kernel_rfl) (by simp) (AllReadyH.cons rfl (fun K hK => ?_) (AllReadyH.cons rfl (fun K hK => ?_) AllReadyH.nil))
   ·skip
    go_simp
    refine hK.out _ _ trivial (fun _ => ?_)
    clear hK K
    clear pc0 pc1 pc2 pc3 pc4 pc5 pc6 qc0 qc1 qc2 qc3 qc4 qc5 qc6
    obtain ⟨qc0,qc1,qc2,qc3,qc4,qc5,qc6⟩:=cells7 hst.q
    refine wpAnyH_ready (rs:=[11,13]) (by kernel_rfl) (by simp) (AllReadyH.cons rfl (fun K hK => ?_) (AllReadyH.cons rfl (fun K hK => ?_) AllReadyH.nil))
    ·skip
     go_simp
     refine (class_st p A5 c5 A6 c6 w _ _ _ rp hst).mono ?_
     rintro e w1 ⟨rfl,hst⟩
     refine hK.out _ _ trivial (fun _ => ?_)
     clear hK K
     clear qc0 qc1 qc2 qc3 qc4 qc5 qc6
     refine tkV (v:=?_) 12 (some 19) rfl rfl (by kernel_rfl) rfl (fun W' => ?_) ?_
     rotate_left
     ·go_simp; (try with_reducible rfl)
     simp only [Act.put,List.setIfInBounds_toArray,List.set_cons_zero,List.set_cons_succ]
     obtain ⟨qc0,qc1,qc2,qc3,qc4,qc5,qc6⟩:=cells7 hst.q
     refine wpAnyH_ready (rs:=[13]) (by kernel_rfl) (by simp) (AllReadyH.cons rfl (fun K hK => ?_) AllReadyH.nil)
     go_simp
     refine hK.out _ _ trivial (fun _ => ?_)
     clear hK K
     clear qc0 qc1 qc2 qc3 qc4 qc5 qc6
     refine wpAnyH_ready (rs:=[14]) (by kernel_rfl) (by simp) (AllReadyH.cons rfl (fun K hK => ?_) AllReadyH.nil)
     go_simp
     refine (class_st q B5 d5 B6 d6 w _ _ _ rq hst).mono ?_
     rintro e w1 ⟨rfl,hst⟩
     refine hK.out _ _ trivial (fun _ => ?_)
     clear hK K
     refine tkV (v:=?_) 15 (some 22) rfl rfl (by kernel_rfl) rfl (fun W' => ?_) ?_
     rotate_left
     ·go_simp; (try with_reducible rfl)
     simp only [Act.put,List.setIfInBounds_toArray,List.set_cons_zero,List.set_cons_succ]
     exact wpAnyH_at (l':=#[true,true,true,true,true,true,true,true,true,true,true,true,true,true,true,true,false,false,false,false,false,false,false,false,false,false,false,false,false]) (by kernel_rfl) (tail _ hst)
    ·skip
     go_simp
     refine hK.out _ _ trivial (fun _ => ?_)
     clear hK K
     clear qc0 qc1 qc2 qc3 qc4 qc5 qc6
     refine wpAnyH_ready (rs:=[11]) (by kernel_rfl) (by simp) (AllReadyH.cons rfl (fun K hK => ?_) AllReadyH.nil)
     go_simp
     refine (class_st p A5 c5 A6 c6 w _ _ _ rp hst).mono ?_
     rintro e w1 ⟨rfl,hst⟩
     refine hK.out _ _ trivial (fun _ => ?_)
     clear hK K
     refine tkV (v:=?_) 12 (some 19) rfl rfl (by kernel_rfl) rfl (fun W' => ?_) ?_
     rotate_left
     ·go_simp; (try with_reducible rfl)
     simp only [Act.put,List.setIfInBounds_toArray,List.set_cons_zero,List.set_cons_succ]
     refine wpAnyH_ready (rs:=[14]) (by kernel_rfl) (by simp) (AllReadyH.cons rfl (fun K hK => ?_) AllReadyH.nil)
     go_simp
     refine (class_st q B5 d5 B6 d6 w _ _ _ rq hst).mono ?_
     rintro e w1 ⟨rfl,hst⟩
     refine hK.out _ _ trivial (fun _ => ?_)
     clear hK K
     refine tkV (v:=?_) 15 (some 22) rfl rfl (by kernel_rfl) rfl (fun W' => ?_) ?_
     rotate_left
     ·go_simp; (try with_reducible rfl)
     simp only [Act.put,List.setIfInBounds_toArray,List.set_cons_zero,List.set_cons_succ]
     exact wpAnyH_at (l':=#[true,true,true,true,true,true,true,true,true,true,true,true,true,true,true,true,false,false,false,false,false,false,false,false,false,false,false,false,false]) (by kernel_rfl) (tail _ hst)
   ·skip
    go_simp
    refine hK.out _ _ trivial (fun _ => ?_)
    clear hK K
    clear pc0 pc1 pc2 pc3 pc4 pc5 pc6 qc0 qc1 qc2 qc3 qc4 qc5 qc6
    obtain ⟨pc0,pc1,pc2,pc3,pc4,pc5,pc6⟩:=cells7 hst.p
    refine wpAnyH_ready (rs:=[10]) (by kernel_rfl) (by simp) (AllReadyH.cons rfl (fun K hK => ?_) AllReadyH.nil)
    go_simp
    refine hK.out _ _ trivial (fun _ => ?_)
    clear hK K
    clear pc0 pc1 pc2 pc3 pc4 pc5 pc6
    refine wpAnyH_ready (rs:=[11]) (by kernel_rfl) (by simp) (AllReadyH.cons rfl (fun K hK => ?_) AllReadyH.nil)
    go_simp
    refine (class_st p A5 c5 A6 c6 w _ _ _ rp hst).mono ?_
    rintro e w1 ⟨rfl,hst⟩
    refine hK.out _ _ trivial (fun _ => ?_)
    clear hK K
    refine tkV (v:=?_) 12 (some 19) rfl rfl (by kernel_rfl) rfl (fun W' => ?_) ?_
    rotate_left
    ·go_simp; (try with_reducible rfl)
    simp only [Act.put,List.setIfInBounds_toArray,List.set_cons_zero,List.set_cons_succ]
    refine wpAnyH_ready (rs:=[14]) (by kernel_rfl) (by simp) (AllReadyH.cons rfl (fun K hK => ?_) AllReadyH.nil)
    go_simp
    refine (class_st q B5 d5 B6 d6 w _ _ _ rq hst).mono ?_
    rintro e w1 ⟨rfl,hst⟩
    refine hK.out _ _ trivial (fun _ => ?_)
    clear hK K
    refine tkV (v:=?_) 15 (some 22) rfl rfl (by kernel_rfl) rfl (fun W' => ?_) ?_
    rotate_left
    ·go_simp; (try with_reducible rfl)
    simp only [Act.put,List.setIfInBounds_toArray,List.set_cons_zero,List.set_cons_succ]
    exact wpAnyH_at (l':=#[true,true,true,true,true,true,true,true,true,true,true,true,true,true,true,true,false,false,false,false,false,false,false,false,false,false,false,false,false]) (by kernel_rfl) (tail _ hst)
  ·skip
   go_simp
   refine hK.out _ _ trivial (fun _ => ?_)
   clear hK K
   clear pc0 pc1 pc2 pc3 pc4 pc5 pc6 qc0 qc1 qc2 qc3 qc4 qc5 qc6
   obtain ⟨qc0,qc1,qc2,qc3,qc4,qc5,qc6⟩:=cells7 hst.q
   refine wpAnyH_ready (rs:=[9,13]) (by kernel_rfl) (by simp) (AllReadyH.cons rfl (fun K hK => ?_) (AllReadyH.cons rfl (fun K hK => ?_) AllReadyH.nil))
   ·skip
    go_simp
    refine (rules_st w _ _ _ hst).mono ?_
    rintro e w1 ⟨rfl,hst⟩
    refine hK.out _ _ trivial (fun _ => ?_)
    clear hK K
    clear qc0 qc1 qc2 qc3 qc4 qc5 qc6
    obtain ⟨qc0,qc1,qc2,qc3,qc4,qc5,qc6⟩:=cells7 hst.q
    refine wpAnyH_ready (rs:=[11,13]) (by kernel_rfl) (by simp) (AllReadyH.cons rfl (fun K hK => ?_) (AllReadyH.cons rfl (fun K hK => ?_) AllReadyH.nil))
    ·skip
     go_simp
     refine (class_st p A5 c5 A6 c6 w _ _ _ rp hst).mono ?_
     rintro e w1 ⟨rfl,hst⟩
     refine hK.out _ _ trivial (fun _ => ?_)
     clear hK K
     clear qc0 qc1 qc2 qc3 qc4 qc5 qc6
     refine tkV (v:=?_) 12 (some 19) rfl rfl (by kernel_rfl) rfl (fun W' => ?_) ?_
     rotate_left
     ·go_simp; (try with_reducible rfl)
     simp only [Act.put,List.setIfInBounds_toArray,List.set_cons_zero,List.set_cons_succ]
     obtain ⟨qc0,qc1,qc2,qc3,qc4,qc5,qc6⟩:=cells7 hst.q
     refine wpAnyH_ready (rs:=[13]) (by kernel_rfl) (by simp) (AllReadyH.cons rfl (fun K hK => ?_) AllReadyH.nil)
     go_simp
     refine hK.out _ _ trivial (fun _ => ?_)
     clear hK K
     clear qc0 qc1 qc2 qc3 qc4 qc5 qc6
     refine wpAnyH_ready (rs:=[14]) (by kernel_rfl) (by simp) (AllReadyH.cons rfl (fun K hK => ?_) AllReadyH.nil)
     go_simp
     refine (class_st q B5 d5 B6 d6 w _ _ _ rq hst).mono ?_
     rintro e w1 ⟨rfl,hst⟩
     refine hK.out _ _ trivial (fun _ => ?_)
     clear hK K
     refine tkV (v:=?_) 15 (some 22) rfl rfl (by kernel_rfl) rfl (fun W' => ?_) ?_
     rotate_left
     ·go_simp; (try with_reducible rfl)
     simp only [Act.put,List.setIfInBounds_toArray,List.set_cons_zero,List.set_cons_succ]
     exact wpAnyH_at (l':=#[true,true,true,true,true,true,true,true,true,true,true,true,true,true,true,true,false,false,false,false,false,false,false,false,false,false,false,false,false]) (by kernel_rfl) (tail _ hst)
    ·skip
     go_simp
     refine hK.out _ _ trivial (fun _ => ?_)
     clear hK K
     clear qc0 qc1 qc2 qc3 qc4 qc5 qc6
     refine wpAnyH_ready (rs:=[11]) (by kernel_rfl) (by simp) (AllReadyH.cons rfl (fun K hK => ?_) AllReadyH.nil)
     go_simp
     refine (class_st p A5 c5 A6 c6 w _ _ _ rp hst).mono ?_
     rintro e w1 ⟨rfl,hst⟩
     refine hK.out _ _ trivial (fun _ => ?_)
     clear hK K
     refine tkV (v:=?_) 12 (some 19) rfl rfl (by kernel_rfl) rfl (fun W' => ?_) ?_
     rotate_left
     ·go_simp; (try with_reducible rfl)
     simp only [Act.put,List.setIfInBounds_toArray,List.set_cons_zero,List.set_cons_succ]
     refine wpAnyH_ready (rs:=[14]) (by kernel_rfl) (by simp) (AllReadyH.cons rfl (fun K hK => ?_) AllReadyH.nil)
     go_simp
     refine (class_st q B5 d5 B6 d6 w _ _ _ rq hst).mono ?_
     rintro e w1 ⟨rfl,hst⟩
     refine hK.out _ _ trivial (fun _ => ?_)
     clear hK K
     refine tkV (v:=?_) 15 (some 22) rfl rfl (by kernel_rfl) rfl (fun W' => ?_) ?_
     rotate_left
     ·go_simp; (try with_reducible rfl)
     simp only [Act.put,List.setIfInBounds_toArray,List.set_cons_zero,List.set_cons_succ]
     exact wpAnyH_at (l':=#[true,true,true,true,true,true,true,true,true,true,true,true,true,true,true,true,false,false,false,false,false,false,false,false,false,false,false,false,false]) (by kernel_rfl) (tail _ hst)
   ·skip
    go_simp
    refine hK.out _ _ trivial (fun _ => ?_)
    clear hK K
    clear qc0 qc1 qc2 qc3 qc4 qc5 qc6
    refine wpAnyH_ready (rs:=[9]) (by kernel_rfl) (by simp) (AllReadyH.cons rfl (fun K hK => ?_) AllReadyH.nil)
    go_simp
    refine (rules_st w _ _ _ hst).mono ?_
    rintro e w1 ⟨rfl,hst⟩
    refine hK.out _ _ trivial (fun _ => ?_)
    clear hK K
    refine wpAnyH_ready (rs:=[11]) (by kernel_rfl) (by simp) (AllReadyH.cons rfl (fun K hK => ?_) AllReadyH.nil)
    go_simp
    refine (class_st p A5 c5 A6 c6 w _ _ _ rp hst).mono ?_
    rintro e w1 ⟨rfl,hst⟩
    refine hK.out _ _ trivial (fun _ => ?_)
    clear hK K
    refine tkV (v:=?_) 12 (some 19) rfl rfl (by kernel_rfl) rfl (fun W' => ?_) ?_
    rotate_left
    ·go_simp; (try with_reducible rfl)
    simp only [Act.put,List.setIfInBounds_toArray,List.set_cons_zero,List.set_cons_succ]
    refine wpAnyH_ready (rs:=[14]) (by kernel_rfl) (by simp) (AllReadyH.cons rfl (fun K hK => ?_) AllReadyH.nil)
    go_simp
    refine (class_st q B5 d5 B6 d6 w _ _ _ rq hst).mono ?_
    rintro e w1 ⟨rfl,hst⟩
    refine hK.out _ _ trivial (fun _ => ?_)
    clear hK K
    refine tkV (v:=?_) 15 (some 22) rfl rfl (by kernel_rfl) rfl (fun W' => ?_) ?_
    rotate_left
    ·go_simp; (try with_reducible rfl)
    simp only [Act.put,List.setIfInBounds_toArray,List.set_cons_zero,List.set_cons_succ]
    exact wpAnyH_at (l':=#[true,true,true,true,true,true,true,true,true,true,true,true,true,true,true,true,false,false,false,false,false,false,false,false,false,false,false,false,false]) (by kernel_rfl) (tail _ hst)
  ·skip
   go_simp
   refine hK.out _ _ trivial (fun _ => ?_)
   clear hK K
   clear pc0 pc1 pc2 pc3 pc4 pc5 pc6 qc0 qc1 qc2 qc3 qc4 qc5 qc6
   obtain ⟨pc0,pc1,pc2,pc3,pc4,pc5,pc6⟩:=cells7 hst.p
   refine wpAnyH_ready (rs:=[9,10]) (by kernel_rfl) (by simp) (AllReadyH.cons rfl (fun K hK => ?_) (AllReadyH.cons rfl (fun K hK => ?_) AllReadyH.nil))
   ·skip
    go_simp
    refine (rules_st w _ _ _ hst).mono ?_
    rintro e w1 ⟨rfl,hst⟩
    refine hK.out _ _ trivial (fun _ => ?_)
    clear hK K
    clear pc0 pc1 pc2 pc3 pc4 pc5 pc6
    obtain ⟨pc0,pc1,pc2,pc3,pc4,pc5,pc6⟩:=cells7 hst.p
    refine wpAnyH_ready (rs:=[10]) (by kernel_rfl) (by simp) (AllReadyH.cons rfl (fun K hK => ?_) AllReadyH.nil)
    go_simp
    refine hK.out _ _ trivial (fun _ => ?_)
    clear hK K
    clear pc0 pc1 pc2 pc3 pc4 pc5 pc6
    refine wpAnyH_ready (rs:=[11]) (by kernel_rfl) (by simp) (AllReadyH.cons rfl (fun K hK => ?_) AllReadyH.nil)
    go_simp
    refine (class_st p A5 c5 A6 c6 w _ _ _ rp hst).mono ?_
    rintro e w1 ⟨rfl,hst⟩
    refine hK.out _ _ trivial (fun _ => ?_)
    clear hK K
    refine tkV (v:=?_) 12 (some 19) rfl rfl (by kernel_rfl) rfl (fun W' => ?_) ?_
    rotate_left
    ·go_simp; (try with_reducible rfl)
    simp only [Act.put,List.setIfInBounds_toArray,List.set_cons_zero,List.set_cons_succ]
    refine wpAnyH_ready (rs:=[14]) (by kernel_rfl) (by simp) (AllReadyH.cons rfl (fun K hK => ?_) AllReadyH.nil)
    go_simp
    refine (class_st q B5 d5 B6 d6 w _ _ _ rq hst).mono ?_
    rintro e w1 ⟨rfl,hst⟩
    refine hK.out _ _ trivial (fun _ => ?_)
    clear hK K
    refine tkV (v:=?_) 15 (some 22) rfl rfl (by kernel_rfl) rfl (fun W' => ?_) ?_
    rotate_left
    ·go_simp; (try with_reducible rfl)
    simp only [Act.put,List.setIfInBounds_toArray,List.set_cons_zero,List.set_cons_succ]
    exact wpAnyH_at (l':=#[true,true,true,true,true,true,true,true,true,true,true,true,true,true,true,true,false,false,false,false,false,false,false,false,false,false,false,false,false]) (by kernel_rfl) (tail _ hst)
   ·skip
    go_simp
    refine hK.out _ _ trivial (fun _ => ?_)
    clear hK K
    clear pc0 pc1 pc2 pc3 pc4 pc5 pc6
    refine wpAnyH_ready (rs:=[9]) (by kernel_rfl) (by simp) (AllReadyH.cons rfl (fun K hK => ?_) AllReadyH.nil)
    go_simp
    refine (rules_st w _ _ _ hst).mono ?_
    rintro e w1 ⟨rfl,hst⟩
    refine hK.out _ _ trivial (fun _ => ?_)
    clear hK K
    refine wpAnyH_ready (rs:=[11]) (by kernel_rfl) (by simp) (AllReadyH.cons rfl (fun K hK => ?_) AllReadyH.nil)
    go_simp
    refine (class_st p A5 c5 A6 c6 w _ _ _ rp hst).mono ?_
    rintro e w1 ⟨rfl,hst⟩
    refine hK.out _ _ trivial (fun _ => ?_)
    clear hK K
    refine tkV (v:=?_) 12 (some 19) rfl rfl (by kernel_rfl) rfl (fun W' => ?_) ?_
    rotate_left
    ·go_simp; (try with_reducible rfl)
    simp only [Act.put,List.setIfInBounds_toArray,List.set_cons_zero,List.set_cons_succ]
    refine wpAnyH_ready (rs:=[14]) (by kernel_rfl) (by simp) (AllReadyH.cons rfl (fun K hK => ?_) AllReadyH.nil)
    go_simp
    refine (class_st q B5 d5 B6 d6 w _ _ _ rq hst).mono ?_
    rintro e w1 ⟨rfl,hst⟩
    refine hK.out _ _ trivial (fun _ => ?_)
    clear hK K
    refine tkV (v:=?_) 15 (some 22) rfl rfl (by kernel_rfl) rfl (fun W' => ?_) ?_
    rotate_left
    ·go_simp; (try with_reducible rfl)
    simp only [Act.put,List.setIfInBounds_toArray,List.set_cons_zero,List.set_cons_succ]
    exact wpAnyH_at (l':=#[true,true,true,true,true,true,true,true,true,true,true,true,true,true,true,true,false,false,false,false,false,false,false,false,false,false,false,false,false]) (by kernel_rfl) (tail _ hst)
 ·clear hst
  intro w1 hst
  refine wpAnyH_ready (rs:=[16]) (by kernel_rfl) (by simp) (AllReadyH.cons rfl (fun K hK => ?_) AllReadyH.nil)
  go_simp
  refine (hrule _ hst).mono ?_
  rintro e w1 ⟨rfl,hst⟩
  refine hK.out _ _ trivial (fun _ => ?_)
  clear hK K
  cases r with
  | false =>
   refine tkV (v:=?_) 17 (some 24) rfl rfl (by kernel_rfl) rfl (fun W' => ?_) ?_
   rotate_left
   ·go_simp; (try with_reducible rfl)
   simp only [Act.put,List.setIfInBounds_toArray,List.set_cons_zero,List.set_cons_succ]
   refine tkV (v:=?_) 18 (some 25) rfl rfl (by kernel_rfl) rfl (fun W' => ?_) ?_
   rotate_left
   ·go_simp; (try with_reducible rfl)
   simp only [Act.put,List.setIfInBounds_toArray,List.set_cons_zero,List.set_cons_succ]
   refine tkV (v:=?_) 19 (some 26) rfl rfl (by kernel_rfl) rfl (fun W' => ?_) ?_
   rotate_left
   ·go_simp; (try with_reducible rfl)
   simp only [Act.put,List.setIfInBounds_toArray,List.set_cons_zero,List.set_cons_succ]
   refine tkS 20 (some 27) rfl rfl (by kernel_rfl) rfl ?_
   simp only [Act.put,List.setIfInBounds_toArray,List.set_cons_zero,List.set_cons_succ]
   refine tkS 21 (some 28) rfl rfl (by kernel_rfl) rfl ?_
   simp only [Act.put,List.setIfInBounds_toArray,List.set_cons_zero,List.set_cons_succ]
   refine tkS 22 (some 29) rfl rfl (by kernel_rfl) rfl ?_
   simp only [Act.put,List.setIfInBounds_toArray,List.set_cons_zero,List.set_cons_succ]
   refine tkV (v:=?_) 23 (some 30) rfl rfl (by kernel_rfl) rfl (fun W' => ?_) ?_
   rotate_left
   ·go_simp; (try with_reducible rfl)
   simp only [Act.put,List.setIfInBounds_toArray,List.set_cons_zero,List.set_cons_succ]
   refine tkV (v:=?_) 24 (some 31) rfl rfl (by kernel_rfl) rfl (fun W' => ?_) ?_
   rotate_left
   ·go_simp; (try with_reducible rfl)
   simp only [Act.put,List.setIfInBounds_toArray,List.set_cons_zero,List.set_cons_succ]
   refine tkS 25 (some 32) rfl rfl (by kernel_rfl) rfl ?_
   simp only [Act.put,List.setIfInBounds_toArray,List.set_cons_zero,List.set_cons_succ]
   refine tkS 26 (some 33) rfl rfl (by kernel_rfl) rfl ?_
   simp only [Act.put,List.setIfInBounds_toArray,List.set_cons_zero,List.set_cons_succ]
   refine tkS 27 (some 34) rfl rfl (by kernel_rfl) rfl ?_
   simp only [Act.put,List.setIfInBounds_toArray,List.set_cons_zero,List.set_cons_succ]
   refine tkV (v:=?_) 28 (some 35) rfl rfl (by kernel_rfl) rfl (fun W' => ?_) ?_
   rotate_left
   ·go_simp; (try with_reducible rfl)
   simp only [Act.put,List.setIfInBounds_toArray,List.set_cons_zero,List.set_cons_succ]
   refine wpAnyH_done (by kernel_rfl) ?_ _
   obtain ⟨xc0,xc1,xc2,xc3,xc4,xc5,xc6⟩:=cells7 hst.x
   obtain ⟨yc0,yc1,yc2,yc3,yc4,yc5,yc6⟩:=cells7 hst.y
   obtain ⟨pf0,pf1,pf2,pf3,pf4,pf5,pf6⟩:=frozen7 hst.p
   obtain ⟨qf0,qf1,qf2,qf3,qf4,qf5,qf6⟩:=frozen7 hst.q
   obtain ⟨xf0,xf1,xf2,xf3,xf4,xf5,xf6⟩:=frozen7 hst.x
   obtain ⟨yf0,yf1,yf2,yf3,yf4,yf5,yf6⟩:=frozen7 hst.y
   clear RP RQ RP2 RQ2
   clear hrule h70 h69
   go_wp2
   all_goals
    refine bodyPost_ret (ret24 (gx:=w.heap.size + 1 + 1) (gy:=w.heap.size + 1 + 1 + 1) rfl rfl rfl ?_ ?_) rfl ⟨rfl,?_⟩
    ·exact ((keep7 (by omega) _ _ _ _ _ _ _).trans (set7 hst.x rfl _ _ _ _ _ _ _))
    ·exact (set7 ((keep7 (by omega) _ _ _ _ _ _ _).trans hst.y) rfl _ _ _ _ _ _ _)
    ·exact (below7 (below7 hst.below (by omega) _ _ _ _ _ _ _) (by omega) _ _ _ _ _ _ _)
  | true =>
   refine tkV (v:=?_) 17 (some 24) rfl rfl (by kernel_rfl) rfl (fun W' => ?_) ?_
   rotate_left
   ·go_simp; (try with_reducible rfl)
   simp only [Act.put,List.setIfInBounds_toArray,List.set_cons_zero,List.set_cons_succ]
   refine tkV (v:=?_) 18 (some 25) rfl rfl (by kernel_rfl) rfl (fun W' => ?_) ?_
   rotate_left
   ·go_simp; (try with_reducible rfl)
   simp only [Act.put,List.setIfInBounds_toArray,List.set_cons_zero,List.set_cons_succ]
   refine tkV (v:=?_) 19 (some 26) rfl rfl (by kernel_rfl) rfl (fun W' => ?_) ?_
   rotate_left
   ·go_simp; (try with_reducible rfl)
   simp only [Act.put,List.setIfInBounds_toArray,List.set_cons_zero,List.set_cons_succ]
   obtain ⟨pc0,pc1,pc2,pc3,pc4,pc5,pc6⟩:=cells7 hst.p
   refine wpAnyH_ready (rs:=[20]) (by kernel_rfl) (by simp) (AllReadyH.cons rfl (fun K hK => ?_) AllReadyH.nil)
   go_simp
   refine hK.out _ _ trivial (fun _ => ?_)
   clear hK K
   clear pc0 pc1 pc2 pc3 pc4 pc5 pc6
   refine wpAnyH_ready (rs:=[21]) (by kernel_rfl) (by simp) (AllReadyH.cons rfl (fun K hK => ?_) AllReadyH.nil)
   go_simp
   refine (RP2 _ _ _ hst).mono ?_
   rintro e w1 ⟨rfl,hst⟩
   refine hK.out _ _ trivial (fun _ => ?_)
   clear hK K
   cases x3 with
   | false =>
    refine tkV (v:=?_) 22 (some 29) rfl rfl (by kernel_rfl) rfl (fun W' => ?_) ?_
    rotate_left
    ·go_simp; (try with_reducible rfl)
    simp only [Act.put,List.setIfInBounds_toArray,List.set_cons_zero,List.set_cons_succ]
    refine tkV (v:=?_) 23 (some 30) rfl rfl (by kernel_rfl) rfl (fun W' => ?_) ?_
    rotate_left
    ·go_simp; (try with_reducible rfl)
    simp only [Act.put,List.setIfInBounds_toArray,List.set_cons_zero,List.set_cons_succ]
    refine tkV (v:=?_) 24 (some 31) rfl rfl (by kernel_rfl) rfl (fun W' => ?_) ?_
    rotate_left
    ·go_simp; (try with_reducible rfl)
    simp only [Act.put,List.setIfInBounds_toArray,List.set_cons_zero,List.set_cons_succ]
    refine tkS 25 (some 32) rfl rfl (by kernel_rfl) rfl ?_
    simp only [Act.put,List.setIfInBounds_toArray,List.set_cons_zero,List.set_cons_succ]
    refine tkS 26 (some 33) rfl rfl (by kernel_rfl) rfl ?_
    simp only [Act.put,List.setIfInBounds_toArray,List.set_cons_zero,List.set_cons_succ]
    refine tkS 27 (some 34) rfl rfl (by kernel_rfl) rfl ?_
    simp only [Act.put,List.setIfInBounds_toArray,List.set_cons_zero,List.set_cons_succ]
    refine tkV (v:=?_) 28 (some 35) rfl rfl (by kernel_rfl) rfl (fun W' => ?_) ?_
    rotate_left
    ·go_simp; (try with_reducible rfl)
    simp only [Act.put,List.setIfInBounds_toArray,List.set_cons_zero,List.set_cons_succ]
    refine wpAnyH_done (by kernel_rfl) ?_ _
    obtain ⟨xc0,xc1,xc2,xc3,xc4,xc5,xc6⟩:=cells7 hst.x
    obtain ⟨yc0,yc1,yc2,yc3,yc4,yc5,yc6⟩:=cells7 hst.y
    obtain ⟨pf0,pf1,pf2,pf3,pf4,pf5,pf6⟩:=frozen7 hst.p
    obtain ⟨qf0,qf1,qf2,qf3,qf4,qf5,qf6⟩:=frozen7 hst.q
    obtain ⟨xf0,xf1,xf2,xf3,xf4,xf5,xf6⟩:=frozen7 hst.x
    obtain ⟨yf0,yf1,yf2,yf3,yf4,yf5,yf6⟩:=frozen7 hst.y
    clear RP RQ RP2 RQ2
    clear hrule h70 h69
    go_wp2
    all_goals
     refine bodyPost_ret (ret24 (gx:=w.heap.size + 1 + 1) (gy:=w.heap.size + 1 + 1 + 1) rfl rfl rfl ?_ ?_) rfl ⟨rfl,?_⟩
     ·exact ((keep7 (by omega) _ _ _ _ _ _ _).trans (set7 hst.x rfl _ _ _ _ _ _ _))
     ·exact (set7 ((keep7 (by omega) _ _ _ _ _ _ _).trans hst.y) rfl _ _ _ _ _ _ _)
     ·exact (below7 (below7 hst.below (by omega) _ _ _ _ _ _ _) (by omega) _ _ _ _ _ _ _)
   | true =>
    refine tkV (v:=?_) 22 (some 29) rfl rfl (by kernel_rfl) rfl (fun W' => ?_) ?_
    rotate_left
    ·go_simp; (try with_reducible rfl)
    simp only [Act.put,List.setIfInBounds_toArray,List.set_cons_zero,List.set_cons_succ]
    refine tkV (v:=?_) 23 (some 30) rfl rfl (by kernel_rfl) rfl (fun W' => ?_) ?_
    rotate_left
    ·go_simp; (try with_reducible rfl)
    simp only [Act.put,List.setIfInBounds_toArray,List.set_cons_zero,List.set_cons_succ]
    refine tkV (v:=?_) 24 (some 31) rfl rfl (by kernel_rfl) rfl (fun W' => ?_) ?_
    rotate_left
    ·go_simp; (try with_reducible rfl)
    simp only [Act.put,List.setIfInBounds_toArray,List.set_cons_zero,List.set_cons_succ]
    obtain ⟨qc0,qc1,qc2,qc3,qc4,qc5,qc6⟩:=cells7 hst.q
    refine wpAnyH_ready (rs:=[25]) (by kernel_rfl) (by simp) (AllReadyH.cons rfl (fun K hK => ?_) AllReadyH.nil)
    go_simp
    refine hK.out _ _ trivial (fun _ => ?_)
    clear hK K
    clear qc0 qc1 qc2 qc3 qc4 qc5 qc6
    refine wpAnyH_ready (rs:=[26]) (by kernel_rfl) (by simp) (AllReadyH.cons rfl (fun K hK => ?_) AllReadyH.nil)
    go_simp
    refine (RQ2 _ _ _ hst).mono ?_
    rintro e w1 ⟨rfl,hst⟩
    refine hK.out _ _ trivial (fun _ => ?_)
    clear hK K
    cases x4 with
    | false =>
     refine tkV (v:=?_) 27 (some 34) rfl rfl (by kernel_rfl) rfl (fun W' => ?_) ?_
     rotate_left
     ·go_simp; (try with_reducible rfl)
     simp only [Act.put,List.setIfInBounds_toArray,List.set_cons_zero,List.set_cons_succ]
     refine tkV (v:=?_) 28 (some 35) rfl rfl (by kernel_rfl) rfl (fun W' => ?_) ?_
     rotate_left
     ·go_simp; (try with_reducible rfl)
     simp only [Act.put,List.setIfInBounds_toArray,List.set_cons_zero,List.set_cons_succ]
     refine wpAnyH_done (by kernel_rfl) ?_ _
     obtain ⟨xc0,xc1,xc2,xc3,xc4,xc5,xc6⟩:=cells7 hst.x
     obtain ⟨yc0,yc1,yc2,yc3,yc4,yc5,yc6⟩:=cells7 hst.y
     obtain ⟨pf0,pf1,pf2,pf3,pf4,pf5,pf6⟩:=frozen7 hst.p
     obtain ⟨qf0,qf1,qf2,qf3,qf4,qf5,qf6⟩:=frozen7 hst.q
     obtain ⟨xf0,xf1,xf2,xf3,xf4,xf5,xf6⟩:=frozen7 hst.x
     obtain ⟨yf0,yf1,yf2,yf3,yf4,yf5,yf6⟩:=frozen7 hst.y
     clear RP RQ RP2 RQ2
     clear hrule h70 h69
     go_wp2
     all_goals
      refine bodyPost_ret (ret24 (gx:=w.heap.size + 1 + 1) (gy:=w.heap.size + 1 + 1 + 1) rfl rfl rfl ?_ ?_) rfl ⟨rfl,?_⟩
      ·exact ((keep7 (by omega) _ _ _ _ _ _ _).trans (set7 hst.x rfl _ _ _ _ _ _ _))
      ·exact (set7 ((keep7 (by omega) _ _ _ _ _ _ _).trans hst.y) rfl _ _ _ _ _ _ _)
      ·exact (below7 (below7 hst.below (by omega) _ _ _ _ _ _ _) (by omega) _ _ _ _ _ _ _)
    | true =>
     refine tkV (v:=?_) 27 (some 34) rfl rfl (by kernel_rfl) rfl (fun W' => ?_) ?_
     rotate_left
     ·go_simp; (try with_reducible rfl)
     simp only [Act.put,List.setIfInBounds_toArray,List.set_cons_zero,List.set_cons_succ]
     refine tkV (v:=?_) 28 (some 35) rfl rfl (by kernel_rfl) rfl (fun W' => ?_) ?_
     rotate_left
     ·go_simp; (try with_reducible rfl)
     simp only [Act.put,List.setIfInBounds_toArray,List.set_cons_zero,List.set_cons_succ]
     refine wpAnyH_done (by kernel_rfl) ?_ _
     obtain ⟨pc0,pc1,pc2,pc3,pc4,pc5,pc6⟩:=cells7 hst.p
     obtain ⟨qc0,qc1,qc2,qc3,qc4,qc5,qc6⟩:=cells7 hst.q
     obtain ⟨xc0,xc1,xc2,xc3,xc4,xc5,xc6⟩:=cells7 hst.x
     obtain ⟨yc0,yc1,yc2,yc3,yc4,yc5,yc6⟩:=cells7 hst.y
     obtain ⟨pf0,pf1,pf2,pf3,pf4,pf5,pf6⟩:=frozen7 hst.p
     obtain ⟨qf0,qf1,qf2,qf3,qf4,qf5,qf6⟩:=frozen7 hst.q
     obtain ⟨xf0,xf1,xf2,xf3,xf4,xf5,xf6⟩:=frozen7 hst.x
     obtain ⟨yf0,yf1,yf2,yf3,yf4,yf5,yf6⟩:=frozen7 hst.y
     clear RP RQ RP2 RQ2
     clear hrule h70 h69
     go_wp2
     all_goals go_region
     all_goals go_wp2
     all_goals
      refine bodyPost_ret (ret24 (gx:=w.heap.size + 1 + 1) (gy:=w.heap.size + 1 + 1 + 1) rfl rfl rfl ?_ ?_) rfl ⟨rfl,?_⟩
      ·exact drew_at ((keep7 (by omega) _ _ _ _ _ _ _).trans (set7 hst.x rfl _ _ _ _ _ _ _))
      ·exact drew_at (set7 ((keep7 (by omega) _ _ _ _ _ _ _).trans hst.y) rfl _ _ _ _ _ _ _)
      ·exact Below.drew (below7 (below7 hst.below (by omega) _ _ _ _ _ _ _) (by omega) _ _ _ _ _ _ _)
theorem row0 : ∀ W,(Instr.index 94 (.agg rulesV) (.int .i64 0)).run Tryz.prog W = .ok (.agg #[.func (.func 119) #[] #[],.func (.func 120) #[] #[],.func (.func 119) #[] #[]]) W:=fun _ => by kernel_rfl
theorem row00 : ∀ W,(Instr.index 93 (.agg #[.func (.func 119) #[] #[],.func (.func 120) #[] #[],.func (.func 119) #[] #[]]) (.int .i64 0)).run Tryz.prog W = .ok (.func (.func 119) #[] #[]) W:=fun _ => by kernel_rfl
theorem row01 : ∀ W,(Instr.index 93 (.agg #[.func (.func 119) #[] #[],.func (.func 120) #[] #[],.func (.func 119) #[] #[]]) (.int .i64 1)).run Tryz.prog W = .ok (.func (.func 120) #[] #[]) W:=fun _ => by kernel_rfl
theorem row02 : ∀ W,(Instr.index 93 (.agg #[.func (.func 119) #[] #[],.func (.func 120) #[] #[],.func (.func 119) #[] #[]]) (.int .i64 2)).run Tryz.prog W = .ok (.func (.func 119) #[] #[]) W:=fun _ => by kernel_rfl
theorem row1 : ∀ W,(Instr.index 94 (.agg rulesV) (.int .i64 1)).run Tryz.prog W = .ok (.agg #[.func (.func 120) #[] #[],.func (.func 121) #[] #[],.func (.func 122) #[] #[]]) W:=fun _ => by kernel_rfl
theorem row10 : ∀ W,(Instr.index 93 (.agg #[.func (.func 120) #[] #[],.func (.func 121) #[] #[],.func (.func 122) #[] #[]]) (.int .i64 0)).run Tryz.prog W = .ok (.func (.func 120) #[] #[]) W:=fun _ => by kernel_rfl
theorem row11 : ∀ W,(Instr.index 93 (.agg #[.func (.func 120) #[] #[],.func (.func 121) #[] #[],.func (.func 122) #[] #[]]) (.int .i64 1)).run Tryz.prog W = .ok (.func (.func 121) #[] #[]) W:=fun _ => by kernel_rfl
theorem row12 : ∀ W,(Instr.index 93 (.agg #[.func (.func 120) #[] #[],.func (.func 121) #[] #[],.func (.func 122) #[] #[]]) (.int .i64 2)).run Tryz.prog W = .ok (.func (.func 122) #[] #[]) W:=fun _ => by kernel_rfl
theorem row2 : ∀ W,(Instr.index 94 (.agg rulesV) (.int .i64 2)).run Tryz.prog W = .ok (.agg #[.func (.func 119) #[] #[],.func (.func 124) #[] #[],.func (.func 119) #[] #[]]) W:=fun _ => by kernel_rfl
theorem row20 : ∀ W,(Instr.index 93 (.agg #[.func (.func 119) #[] #[],.func (.func 124) #[] #[],.func (.func 119) #[] #[]]) (.int .i64 0)).run Tryz.prog W = .ok (.func (.func 119) #[] #[]) W:=fun _ => by kernel_rfl
theorem row21 : ∀ W,(Instr.index 93 (.agg #[.func (.func 119) #[] #[],.func (.func 124) #[] #[],.func (.func 119) #[] #[]]) (.int .i64 1)).run Tryz.prog W = .ok (.func (.func 124) #[] #[]) W:=fun _ => by kernel_rfl
theorem row22 : ∀ W,(Instr.index 93 (.agg #[.func (.func 119) #[] #[],.func (.func 124) #[] #[],.func (.func 119) #[] #[]]) (.int .i64 2)).run Tryz.prog W = .ok (.func (.func 119) #[] #[]) W:=fun _ => by kernel_rfl
theorem class2 {x : S25} (h : x.f0 = 10) : classS x = 2:=if_pos h
theorem class1 {x : S25} (h : ¬ x.f0 = 10) (h7 : 7 ≤ x.f0) : classS x = 1:=(if_neg h).trans (if_pos h7)
theorem class0 {x : S25} (h : ¬ x.f0 = 10) (h7 : ¬ 7 ≤ x.f0) : classS x = 0:=(if_neg h).trans (if_neg h7)
structure Fn (n : Nat) (p q : S25) : Prop where
 en : ∀ args w,(callFunc n args).run Tryz.prog w = .ok (.enter n args) w
 at' : ∃ row : Array Value,(∀ W,(Instr.index 94 (.agg rulesV) (.int .i64 (classS p))).run Tryz.prog W = .ok (.agg row) W) ∧ ∀ W,(Instr.index 93 (.agg row) (.int .i64 (classS q))).run Tryz.prog W = .ok (.func (.func n) #[] #[]) W
theorem rule_fn (p q : S25) (A5 : Option Addr) (c5 : Nat) (A6 : Option Addr) (c6 : Nat) (B5 : Option Addr) (d5 : Nat) (B6 : Option Addr) (d6 : Nat) (w : World) (bp : primB p = true) (bq : primB q = true) :
  ∃ n,Fn n p q ∧ ∀ W,St w (cs p A5 c5 A6 c6) (cs q B5 d5 B6 d6) W → Calls Tryz.prog n #[.pointer (some ⟨w.heap.size,0,none⟩),.pointer (some ⟨w.heap.size + 1,0,none⟩)] W fun e W' => e = .returned (.bool (ruleS p q).2.2) ∧ St w (cs (ruleS p q).1 A5 c5 A6 c6) (cs (ruleS p q).2.1 B5 d5 B6 d6) W':=by
 have s1:=prim_f1 bp
 have s2:=prim_f1 bq
 by_cases cp : p.f0 = 10
 ·by_cases cq : q.f0 = 10
  ·have hr : ruleS p q = (p,q,apartL (pathsS p) (pathsS q)):=by unfold ruleS; rw [if_pos cp,if_pos cq]
   rw [hr]
   refine ⟨119,⟨fun args w => by go_simp,#[.func (.func 119) #[] #[],.func (.func 124) #[] #[],.func (.func 119) #[] #[]],by rw [class2 cp]; exact row2,by rw [class2 cq]; exact row22⟩,fun W h => ?_⟩
   refine (still_calls p q A5 c5 A6 c6 B5 d5 B6 d6 _ _ W h.p h.q).mono ?_
   rintro e W' ⟨rfl,hb⟩
   exact ⟨rfl,h.later hb⟩
  ·by_cases dq : 7 ≤ q.f0
   ·have hr : ruleS p q = (p,{ q with f1:=(carryS q.f1 p.f2 p.f1).1 },(carryS q.f1 p.f2 p.f1).2):=by unfold ruleS; rw [if_pos cp,if_neg cq,if_pos dq]
    rw [hr]
    refine ⟨124,⟨fun args w => by go_simp,#[.func (.func 119) #[] #[],.func (.func 124) #[] #[],.func (.func 119) #[] #[]],by rw [class2 cp]; exact row2,by rw [class1 cq dq]; exact row21⟩,fun W h => ?_⟩
    refine (rule2_calls p q A5 c5 A6 c6 B5 d5 B6 d6 _ _ (by omega) W h.p h.q (by omega)).mono ?_
    rintro e W' ⟨rfl,hb⟩
    exact ⟨rfl,h.left hb⟩
   ·have hr : ruleS p q = (p,q,apartL (pathsS p) (pathsS q)):=by unfold ruleS; rw [if_pos cp,if_neg cq,if_neg dq]
    rw [hr]
    refine ⟨119,⟨fun args w => by go_simp,#[.func (.func 119) #[] #[],.func (.func 124) #[] #[],.func (.func 119) #[] #[]],by rw [class2 cp]; exact row2,by rw [class0 cq dq]; exact row20⟩,fun W h => ?_⟩
    refine (still_calls p q A5 c5 A6 c6 B5 d5 B6 d6 _ _ W h.p h.q).mono ?_
    rintro e W' ⟨rfl,hb⟩
    exact ⟨rfl,h.later hb⟩
 ·by_cases dp : 7 ≤ p.f0
  ·by_cases cq : q.f0 = 10
   ·have hr : ruleS p q = ({ p with f1:=(carryS p.f1 q.f1 q.f2).1 },q,(carryS p.f1 q.f1 q.f2).2):=by unfold ruleS; rw [if_neg cp,if_pos dp,if_pos cq]
    rw [hr]
    refine ⟨122,⟨fun args w => by go_simp,#[.func (.func 120) #[] #[],.func (.func 121) #[] #[],.func (.func 122) #[] #[]],by rw [class1 cp dp]; exact row1,by rw [class2 cq]; exact row12⟩,fun W h => ?_⟩
    refine (rule1_calls p q A5 c5 A6 c6 B5 d5 B6 d6 _ _ (by omega) W h.p h.q (by have:=prim_f2 bq cq; omega)).mono ?_
    rintro e W' ⟨rfl,hb⟩
    exact ⟨rfl,h.left hb⟩
   ·by_cases dq : 7 ≤ q.f0
    ·have hr : ruleS p q = bothS p q:=by unfold ruleS; rw [if_neg cp,if_pos dp,if_neg cq,if_pos dq]
     rw [hr]
     refine ⟨121,⟨fun args w => by go_simp,#[.func (.func 120) #[] #[],.func (.func 121) #[] #[],.func (.func 122) #[] #[]],by rw [class1 cp dp]; exact row1,by rw [class1 cq dq]; exact row11⟩,fun W h => ?_⟩
     refine (both_calls p q A5 c5 A6 c6 B5 d5 B6 d6 _ _ (by omega) W h.p h.q).mono ?_
     rintro e W' ⟨rfl,hb⟩
     exact ⟨rfl,h.left hb⟩
    ·have hr : ruleS p q = (p,q,p.f1.toList != q.f1.toList):=by unfold ruleS; rw [if_neg cp,if_pos dp,if_neg cq,if_neg dq]
     rw [hr]
     refine ⟨120,⟨fun args w => by go_simp,#[.func (.func 120) #[] #[],.func (.func 121) #[] #[],.func (.func 122) #[] #[]],by rw [class1 cp dp]; exact row1,by rw [class0 cq dq]; exact row10⟩,fun W h => ?_⟩
     refine (beside_calls p q A5 c5 A6 c6 B5 d5 B6 d6 _ _ W h.p h.q).mono ?_
     rintro e W' ⟨rfl,hb⟩
     exact ⟨rfl,h.later hb⟩
  ·by_cases cq : q.f0 = 10
   ·have hr : ruleS p q = (p,q,apartL (pathsS p) (pathsS q)):=by unfold ruleS; rw [if_neg cp,if_neg dp,if_pos cq]
    rw [hr]
    refine ⟨119,⟨fun args w => by go_simp,#[.func (.func 119) #[] #[],.func (.func 120) #[] #[],.func (.func 119) #[] #[]],by rw [class0 cp dp]; exact row0,by rw [class2 cq]; exact row02⟩,fun W h => ?_⟩
    refine (still_calls p q A5 c5 A6 c6 B5 d5 B6 d6 _ _ W h.p h.q).mono ?_
    rintro e W' ⟨rfl,hb⟩
    exact ⟨rfl,h.later hb⟩
   ·by_cases dq : 7 ≤ q.f0
    ·have hr : ruleS p q = (p,q,p.f1.toList != q.f1.toList):=by unfold ruleS; rw [if_neg cp,if_neg dp,if_neg cq,if_pos dq]
     rw [hr]
     refine ⟨120,⟨fun args w => by go_simp,#[.func (.func 119) #[] #[],.func (.func 120) #[] #[],.func (.func 119) #[] #[]],by rw [class0 cp dp]; exact row0,by rw [class1 cq dq]; exact row01⟩,fun W h => ?_⟩
     refine (beside_calls p q A5 c5 A6 c6 B5 d5 B6 d6 _ _ W h.p h.q).mono ?_
     rintro e W' ⟨rfl,hb⟩
     exact ⟨rfl,h.later hb⟩
    ·have hr : ruleS p q = (p,q,apartL (pathsS p) (pathsS q)):=by unfold ruleS; rw [if_neg cp,if_neg dp,if_neg cq,if_neg dq]
     rw [hr]
     refine ⟨119,⟨fun args w => by go_simp,#[.func (.func 119) #[] #[],.func (.func 120) #[] #[],.func (.func 119) #[] #[]],by rw [class0 cp dp]; exact row0,by rw [class0 cq dq]; exact row00⟩,fun W h => ?_⟩
     refine (still_calls p q A5 c5 A6 c6 B5 d5 B6 d6 _ _ W h.p h.q).mono ?_
     rintro e W' ⟨rfl,hb⟩
     exact ⟨rfl,h.later hb⟩
theorem Rd.of {w : World} {x y : S25} {A5 : Option Addr} {c5 : Nat} {A6 : Option Addr} {c6 : Nat} (h : Rd w x A5 c5 A6 c6) (h5 : y.f5 = x.f5) (h6 : y.f6 = x.f6) : Rd w y A5 c5 A6 c6:=by
 obtain ⟨a,b,c,d⟩:=h
 exact ⟨by rw [h5]; exact a,by rw [h5]; exact b,by rw [h6]; exact c,by rw [h6]; exact d⟩
theorem comm_at (p q : S25) (A5 : Option Addr) (c5 : Nat) (A6 : Option Addr) (c6 : Nat) (B5 : Option Addr) (d5 : Nat) (B6 : Option Addr) (d6 : Nat) (w : World) (hp : Okp p) (hq : Okp q) (rp : Rd w p A5 c5 A6 c6) (rq : Rd w q B5 d5 B6 d6) :
  Calls Tryz.prog 42 #[.agg (cs p A5 c5 A6 c6),.agg (cs q B5 d5 B6 d6)] w fun e w' => ((comm p q = (z25,z25,false) ∧ e = .returned (.tuple #[.agg zeroC,.agg zeroC,.bool false])) ∨ ∃ a b,Yes p q a b ∧ e = .returned (.tuple #[.agg (cs a B5 d5 B6 d6),.agg (cs b A5 c5 A6 c6),.bool true])) ∧ Below w.heap.size w w':=by
 cases bp : primB p with
 | false =>
  refine (comm_np p q A5 c5 A6 c6 B5 d5 B6 d6 w hp rp bp).mono ?_
  rintro e w' ⟨rfl,hb⟩
  exact ⟨.inl ⟨if_neg (fun h => by rw [h.1] at bp; cases bp),rfl⟩,hb⟩
 | true =>
  cases bq : primB q with
  | false =>
   refine (comm_nq p q A5 c5 A6 c6 B5 d5 B6 d6 w hp rp bp hq rq bq).mono ?_
   rintro e w' ⟨rfl,hb⟩
   exact ⟨.inl ⟨if_neg (fun h => by rw [h.2.1] at bq; cases bq),rfl⟩,hb⟩
  | true =>
   obtain ⟨n,⟨en,row,h70,h69⟩,hrule⟩:=rule_fn p q A5 c5 A6 c6 B5 d5 B6 d6 w bp bq
   obtain ⟨b,a,r,hr⟩ : ∃ b a r,ruleS p q = (b,a,r):=⟨_,_,_,rfl⟩
   obtain ⟨hb,ha⟩:=okp_rule hr bp bq hp hq
   obtain ⟨kb,ka⟩:=rule_keep hr
   have rb : Rd w b A5 c5 A6 c6:=rp.of (by rw [kb]) (by rw [kb])
   have ra : Rd w a B5 d5 B6 d6:=rq.of (by rw [ka]) (by rw [ka])
   rw [hr] at hrule
   obtain ⟨x3,h3⟩ : ∃ x,primB b = x:=⟨_,rfl⟩
   obtain ⟨x4,h4⟩ : ∃ x,primB a = x:=⟨_,rfl⟩
   refine (comm_in p q b a A5 c5 A6 c6 B5 d5 B6 d6 w r x3 x4 hp rp bp hq rq bq hb rb h3 ha ra h4 n en row h70 h69 hrule).mono ?_
   intro e w' hP
   have hno : (r = true ∧ x3 = true ∧ x4 = true → False) → comm p q = (z25,z25,false):=fun hn => if_neg (fun h => by
    rw [hr] at h
    exact hn ⟨h.2.2.1,h3.symm.trans h.2.2.2.1,h4.symm.trans h.2.2.2.2⟩)
   cases r with
   | false => exact ⟨.inl ⟨hno (fun h => by cases h.1),hP.1⟩,hP.2⟩
   | true =>
    cases x3 with
    | false => exact ⟨.inl ⟨hno (fun h => by cases h.2.1),hP.1⟩,hP.2⟩
    | true =>
     cases x4 with
     | false => exact ⟨.inl ⟨hno (fun h => by cases h.2.2),hP.1⟩,hP.2⟩
     | true => exact ⟨.inr ⟨a,b,⟨bp,bq,h4,h3,hr⟩,hP.1⟩,hP.2⟩
theorem right_at (x : S25) (A5 : Option Addr) (c5 : Nat) (A6 : Option Addr) (c6 : Nat) (w : World) (hx : Okp x) (rx : Rd w x A5 c5 A6 c6) :
  Calls Tryz.prog 25 #[.agg (cs x A5 c5 A6 c6)] w fun e w' => e = .returned (.bool (primB x)) ∧ Below w.heap.size w w':=by
 obtain ⟨k,hk⟩:=(prim_right x hx).rounds
 exact prim_Right.calls k _ _ _ _ _ _ _ _ _ _ _ _ w rx.g5 rx.l5 rx.g6 rx.l6 hk
set_option linter.unusedSimpArgs false
set_option linter.unusedVariables false
structure S2 (w : World) (cp cq : Array Value) (W : World) : Prop where
 p : W.heap[w.heap.size]? = some (.cells cp 25 (0,0))
 q : W.heap[w.heap.size + 1]? = some (.cells cq 25 (0,0))
 below : Below w.heap.size w W
theorem S2.start (w : World) (cp cq : Array Value) : S2 w cp cq ((w.alloc (.cells cp 25)).alloc (.cells cq 25)):=⟨box1 w _ _,box2 w _ _,((Below.refl _ w).alloc (Nat.le_refl _) _).alloc (by simp) _⟩
theorem S2.later {w W W' : World} {cp cq : Array Value} (h : S2 w cp cq W) (hb : Below W.heap.size W W') : S2 w cp cq W':=⟨blk_below h.p hb,blk_below h.q hb,h.below.trans (hb.mono h.below.size)⟩
theorem S2.set {w W : World} {cp cq : Array Value} (h : S2 w cp cq W) (i : Nat) (v : Value) : S2 w (cp.setIfInBounds i v) cq (W.setCell ⟨w.heap.size,i,none⟩ v) :=
 ⟨blk_set h.p i v,blk_far h.q (by show w.heap.size + 1 ≠ w.heap.size; omega) _,h.below.setCell (by simp) _⟩
theorem Rd.s2 {w W : World} {cp cq : Array Value} {x : S25} {A5 : Option Addr} {c5 : Nat} {A6 : Option Addr} {c6 : Nat} (h : Rd w x A5 c5 A6 c6) (hst : S2 w cp cq W) : Rd W x A5 c5 A6 c6:=h.below hst.below
theorem equal_s2 {w : World} (W : World) {cp cq : Array Value} (a b : List ByteArray) (A : Option Addr) (c : Nat) (B : Option Addr) (d : Nat) (hn : a.length ≤ 140737488355328) (ga : Kd.C Kd.string w A a.length a) (hc : a.length ≤ c) (gb : Kd.C Kd.string w B b.length b) (hd : b.length ≤ d) (h : S2 w cp cq W) :
  Calls Tryz.prog 135 #[.slice A a.length c,.slice B b.length d] W fun e W' => e = .returned (.bool (eqL a b)) ∧ S2 w cp cq W' :=
 (equal_at a b A c B d W hn (Kd.C_below ga h.below) hc (Kd.C_below gb h.below) hd).mono (fun _ _ ⟨he,hb⟩ => ⟨he,h.later hb⟩)
theorem right_s2 {w : World} (W : World) {cp cq : Array Value} (x : S25) (A5 : Option Addr) (c5 : Nat) (A6 : Option Addr) (c6 : Nat) (hx : Okp x) (rx : Rd w x A5 c5 A6 c6) (h : S2 w cp cq W) :
  Calls Tryz.prog 25 #[.agg (cs x A5 c5 A6 c6)] W fun e W' => e = .returned (.bool (primB x)) ∧ S2 w cp cq W' :=
 (right_at x A5 c5 A6 c6 W hx (rx.s2 h)).mono (fun _ _ ⟨he,hb⟩ => ⟨he,h.later hb⟩)
theorem apart_s2 {w : World} (W : World) {cp cq : Array Value} (a b : ByteArray) (h : S2 w cp cq W) :
  Calls Tryz.prog 68 #[.string a,.string b] W fun e W' => e = .returned (.bool (apartB a b)) ∧ S2 w cp cq W' :=
 (path_Apart.calls a b _ W (apart_f a b)).mono (fun _ _ ⟨he,hb⟩ => ⟨he,h.later hb.below⟩)
set_option maxHeartbeats 4000000 in
set_option maxRecDepth 100000 in
theorem alike_at (p q : S25) (A5 : Option Addr) (c5 : Nat) (A6 : Option Addr) (c6 : Nat) (B5 : Option Addr) (d5 : Nat) (B6 : Option Addr) (d6 : Nat) (w : World) (hp : Okp p) (rp : Rd w p A5 c5 A6 c6) (rq : Rd w q B5 d5 B6 d6) :
  Calls Tryz.prog 156 #[.agg #[.int .i64 p.f0,.string p.f1,.string p.f2,.string p.f3,.int .i64 p.f4,.slice A5 p.f5.length c5,.slice A6 p.f6.length c6],.agg #[.int .i64 q.f0,.string q.f1,.string q.f2,.string q.f3,.int .i64 q.f4,.slice B5 q.f5.length d5,.slice B6 q.f6.length d6]] w fun e w' => e = .returned (.bool (eqS p q)) ∧ Below w.heap.size w w':=by
 have hst:=S2.start w #[.int .i64 p.f0,.string p.f1,.string p.f2,.string p.f3,.int .i64 p.f4,.slice A5 p.f5.length c5,.slice A6 p.f6.length c6] #[.int .i64 q.f0,.string q.f1,.string q.f2,.string q.f3,.int .i64 q.f4,.slice B5 q.f5.length d5,.slice B6 q.f6.length d6]
 unfold eqS
 have t0 : decide (p.f0 = q.f0) = (p.f0 == q.f0):=by cases h : (p.f0 == q.f0) <;> simpa using h
 have t1 : decide (p.f1.toList = q.f1.toList) = (p.f1.toList == q.f1.toList):=by cases h : (p.f1.toList == q.f1.toList) <;> simpa using h
 have t2 : decide (p.f2.toList = q.f2.toList) = (p.f2.toList == q.f2.toList):=by cases h : (p.f2.toList == q.f2.toList) <;> simpa using h
 have t3 : decide (p.f3.toList = q.f3.toList) = (p.f3.toList == q.f3.toList):=by cases h : (p.f3.toList == q.f3.toList) <;> simpa using h
 have t4 : decide (p.f4 = q.f4) = (p.f4 == q.f4):=by cases h : (p.f4 == q.f4) <;> simpa using h
 rw [t0,t1,t2,t3,t4]
 clear t0 t1 t2 t3 t4
 go_enter Tryz.func156,Tryz.ntmps156
 go_wp2_with (fail)
 refine (equal_s2 _ p.f5 q.f5 A5 c5 B5 d5 hp.ok.1 rp.g5 rp.l5 rq.g5 rq.l5 hst).mono ?_
 rintro e w1 ⟨rfl,hst⟩
 obtain ⟨pc0,pc1,pc2,pc3,pc4,pc5,pc6⟩:=cells7 hst.p
 obtain ⟨qc0,qc1,qc2,qc3,qc4,qc5,qc6⟩:=cells7 hst.q
 cases e5 : eqL p.f5 q.f5 with
 | false =>
  go_wp2
  go_ret
  exact ⟨congrArg (fun b => Ending.returned (.bool b)) (show false = _ by simp only [e5,Bool.false_and,Bool.true_and]),hst.below⟩
 | true =>
  go_wp2_with (fail)
  refine (equal_s2 _ p.f6 q.f6 A6 c6 B6 d6 hp.ok.2 rp.g6 rp.l6 rq.g6 rq.l6 hst).mono ?_
  clear pc0 pc1 pc2 pc3 pc4 pc5 pc6 qc0 qc1 qc2 qc3 qc4 qc5 qc6
  rintro e w2 ⟨rfl,hst⟩
  obtain ⟨pc0,pc1,pc2,pc3,pc4,pc5,pc6⟩:=cells7 hst.p
  obtain ⟨qc0,qc1,qc2,qc3,qc4,qc5,qc6⟩:=cells7 hst.q
  cases e6 : eqL p.f6 q.f6 with
  | false =>
   go_wp2
   go_ret
   exact ⟨congrArg (fun b => Ending.returned (.bool b)) (show false = _ by simp only [e5,e6,Bool.false_and,Bool.true_and]),hst.below⟩
  | true =>
   cases h0 : (p.f0 == q.f0) with
   | false =>
    go_wp2
    go_ret
    exact ⟨congrArg (fun b => Ending.returned (.bool b)) (show false = _ by simp only [e5,e6,h0,Bool.false_and,Bool.true_and]),hst.below⟩
   | true =>
    cases h1 : (p.f1.toList == q.f1.toList) with
    | false =>
     go_wp2
     go_ret
     exact ⟨congrArg (fun b => Ending.returned (.bool b)) (show false = _ by simp only [e5,e6,h0,h1,Bool.false_and,Bool.true_and]),hst.below⟩
    | true =>
     cases h2 : (p.f2.toList == q.f2.toList) with
     | false =>
      go_wp2
      go_ret
      exact ⟨congrArg (fun b => Ending.returned (.bool b)) (show false = _ by simp only [e5,e6,h0,h1,h2,Bool.false_and,Bool.true_and]),hst.below⟩
     | true =>
      cases h3 : (p.f3.toList == q.f3.toList) with
      | false =>
       go_wp2
       go_ret
       exact ⟨congrArg (fun b => Ending.returned (.bool b)) (show false = _ by simp only [e5,e6,h0,h1,h2,h3,Bool.false_and,Bool.true_and]),hst.below⟩
      | true =>
       go_wp2
       go_ret
       exact ⟨congrArg (fun b => Ending.returned (.bool b)) (show (p.f4 == q.f4) = _ by simp only [e5,e6,h0,h1,h2,h3,Bool.false_and,Bool.true_and]),hst.below⟩
def joinB (p q : S25) : Option (Option S25) :=
 if (primB p && primB q) = true then
  if eqS (invS p) q = true then some none
  else if ((p.f0 == q.f0) && (p.f1.toList == q.f1.toList) && (p.f0 == 9) && (q.f3.toList == p.f2.toList)) = true then some (some { p with f2:=q.f2 })
  else if ((p.f0 == q.f0) && (p.f1.toList == q.f1.toList) && (p.f0 == 7) && (p.f4 == q.f4) && eqL p.f6 q.f5) = true then some (some { p with f6:=q.f6 })
  else if ((p.f0 == 10) && (q.f0 == 10) && (q.f1.toList == p.f2.toList) && apartB p.f1 q.f2) = true then some (some { p with f2:=q.f2 })
  else none
 else none
theorem joinS_eq (p q : S25) : joinS p q = joinB p q:=by
 unfold joinS joinB hereB
 simp only [Bool.and_eq_true,decide_eq_true_eq,beq_iff_eq,and_assoc]
def JoinPost (w0 w : World) : Option (Option S25) → Ending → World → Prop
 | none,e,w' => e = .returned (.tuple #[.slice none 0 0,.bool false]) ∧ Below w.heap.size w w'
 | some none,e,w' => e = .returned (.tuple #[.slice none 0 0,.bool true]) ∧ Below w.heap.size w w'
 | some (some x),e,w' => ∃ (g : Nat) (X5 : Option Addr) (x5 : Nat) (X6 : Option Addr) (x6 : Nat),e = .returned (.tuple #[.slice (some ⟨g,0,none⟩) 1 1,.bool true]) ∧ w'.heap[g]? = some (.cells (cs x X5 x5 X6 x6) 25 (0,0)) ∧ Rd w0 x X5 x5 X6 x6 ∧ Below w.heap.size w w'
theorem joinS_okp {p q x : S25} (hp : Okp p) (hq : Okp q) (h : joinS p q = some (some x)) : Okp x:=by
 unfold joinS at h
 repeat' split at h
 all_goals cases h
 all_goals first | exact ⟨hp.ok,hp.s1,hq.s2,hp.s3⟩ | exact ⟨⟨hp.ok.1,hq.ok.2⟩,hp.s1,hp.s2,hp.s3⟩
theorem join_one {w0 w W : World} {cp cq : Array Value} (h : S2 w cp cq W) (i : Nat) (v : Value) (x : S25) (X5 : Option Addr) (x5 : Nat) (X6 : Option Addr) (x6 : Nat) (rx : Rd w0 x X5 x5 X6 x6) :
  JoinPost w0 w (some (some x)) (.returned (.tuple #[.slice (some ⟨W.heap.size,0,none⟩) 1 1,.bool true])) ((W.setCell ⟨w.heap.size,i,none⟩ v).alloc (.cells (cs x X5 x5 X6 x6) 25)):=by
 have hb : Below w.heap.size w ((W.setCell ⟨w.heap.size,i,none⟩ v).alloc (.cells (cs x X5 x5 X6 x6) 25)):=below_alloc (h.below.setCell (by simp) _) _
 refine ⟨W.heap.size,X5,x5,X6,x6,rfl,?_,rx,hb⟩
 have hn:=blk_new (W.setCell ⟨w.heap.size,i,none⟩ v) (.cells (cs x X5 x5 X6 x6) 25)
 simpa using hn
set_option maxHeartbeats 16000000 in
set_option maxRecDepth 100000 in
theorem join_at (p q : S25) (A5 : Option Addr) (c5 : Nat) (A6 : Option Addr) (c6 : Nat) (B5 : Option Addr) (d5 : Nat) (B6 : Option Addr) (d6 : Nat) (w : World) (w0 : World) (hw0 : Below w0.heap.size w0 w) (hp : Okp p) (hq : Okp q) (rp0 : Rd w0 p A5 c5 A6 c6) (rq0 : Rd w0 q B5 d5 B6 d6) :
  Calls Tryz.prog 128 #[.agg #[.int .i64 p.f0,.string p.f1,.string p.f2,.string p.f3,.int .i64 p.f4,.slice A5 p.f5.length c5,.slice A6 p.f6.length c6],.agg #[.int .i64 q.f0,.string q.f1,.string q.f2,.string q.f3,.int .i64 q.f4,.slice B5 q.f5.length d5,.slice B6 q.f6.length d6]] w (JoinPost w0 w (joinS p q)):=by
 have rp:=rp0.below hw0
 have rq:=rq0.below hw0
 have hst:=S2.start w #[.int .i64 p.f0,.string p.f1,.string p.f2,.string p.f3,.int .i64 p.f4,.slice A5 p.f5.length c5,.slice A6 p.f6.length c6] #[.int .i64 q.f0,.string q.f1,.string q.f2,.string q.f3,.int .i64 q.f4,.slice B5 q.f5.length d5,.slice B6 q.f6.length d6]
 obtain ⟨x1,bp⟩ : ∃ x,primB p = x:=⟨_,rfl⟩
 obtain ⟨x2,bq⟩ : ∃ x,primB q = x:=⟨_,rfl⟩
 have Bp:=Aside0.mk bp
 have Bq:=Aside0.mk bq
 clear bp bq
 go_enter Tryz.func128,Tryz.ntmps128
 go_wp2_with (fail)
 refine (right_s2 _ p A5 c5 A6 c6 hp rp hst).mono ?_
 rintro e w1 ⟨rfl,hst⟩
 rw [Bp.out]
 obtain ⟨pc0,pc1,pc2,pc3,pc4,pc5,pc6⟩:=cells7 hst.p
 obtain ⟨qc0,qc1,qc2,qc3,qc4,qc5,qc6⟩:=cells7 hst.q
 cases x1 with
 | false =>
  go_wp2
  have hj : joinS p q = none:=by rw [joinS_eq]; unfold joinB; simp only [Bp.out,Bool.and_self,Bool.true_and,Bool.false_and,Bool.and_true,Bool.and_false,if_true,if_false,Bool.false_eq_true,reduceIte]
  rw [hj]
  clear hj
  go_ret2
  exact ⟨rfl,hst.below⟩
 | true =>
  go_wp2_with (fail)
  refine (right_s2 _ q B5 d5 B6 d6 hq rq hst).mono ?_
  clear pc0 pc1 pc2 pc3 pc4 pc5 pc6 qc0 qc1 qc2 qc3 qc4 qc5 qc6
  rintro e w2 ⟨rfl,hst⟩
  rw [Bq.out]
  obtain ⟨pc0,pc1,pc2,pc3,pc4,pc5,pc6⟩:=cells7 hst.p
  obtain ⟨qc0,qc1,qc2,qc3,qc4,qc5,qc6⟩:=cells7 hst.q
  cases x2 with
  | false =>
   go_wp2
   have hj : joinS p q = none:=by rw [joinS_eq]; unfold joinB; simp only [Bp.out,Bq.out,Bool.and_self,Bool.true_and,Bool.false_and,Bool.and_true,Bool.and_false,if_true,if_false,Bool.false_eq_true,reduceIte]
   rw [hj]
   clear hj
   go_ret2
   exact ⟨rfl,hst.below⟩
  | true =>
   go_upto_region 3 with (fail)
   go_cut [6] from 15 to 26 (fun v6 w' => v6 = .bool ((p.f0 == q.f0) && (p.f1.toList == q.f1.toList)) ∧ w' = w2)
   case first =>
    cases h1 : (p.f0 == q.f0) with
    | false =>
     go_wp2
     go_meet
     case rel => exact ⟨by rw [h1]; rfl,rfl⟩
    | true =>
     go_wp2
     go_meet
     case rel => exact ⟨by rw [h1]; rfl,rfl⟩
   case rest =>
    obtain ⟨rfl,rfl⟩:=hcut
    obtain ⟨b6,h6⟩ : ∃ b,((p.f0 == q.f0) && (p.f1.toList == q.f1.toList)) = b:=⟨_,rfl⟩
    rw [h6]
    have H6:=Aside0.mk h6
    clear h6
    go_upto_region 5 with (fail)
    clear pc0 pc1 pc2 pc3 pc4 pc5 pc6 qc0 qc1 qc2 qc3 qc4 qc5 qc6
    obtain ⟨al,hal⟩ : ∃ b,eqS (invS p) q = b:=⟨_,rfl⟩
    have Al:=Aside0.mk hal
    clear hal
    have hst0:=Aside0.mk hst
    go_cut [27] from 28 to 31 (fun v27 w' => v27 = .bool al ∧ Aside0 (S2 w #[.int .i64 p.f0,.string p.f1,.string p.f2,.string p.f3,.int .i64 p.f4,.slice A5 p.f5.length c5,.slice A6 p.f6.length c6] #[.int .i64 q.f0,.string q.f1,.string q.f2,.string q.f3,.int .i64 q.f4,.slice B5 q.f5.length d5,.slice B6 q.f6.length d6] w'))
    case first =>
     refine wp_region_held_drew (S:=fun W => Below wc.heap.size wc W) (by kernel_rfl) (below_drew (Below.refl _ _)) (fun _ => ?_)
     have hS:=below_drew (Below.refl wc.heap.size wc)
     generalize World.drew wc = W at hS ⊢
     refine' tkE 0 28 hS ?_ ?_; rotate_left
     ·intro W' hSW; obtain ⟨k0,k1,k2,k3,k4,k5,k6⟩:=cells7 (S2.later hst0.out hSW).p; go_simp; (try with_reducible rfl)
     refine' tkE 2 30 hS ?_ ?_; rotate_left
     ·intro W' hSW; obtain ⟨k0,k1,k2,k3,k4,k5,k6⟩:=cells7 (S2.later hst0.out hSW).q; go_simp; (try with_reducible rfl)
     simp only [Act.put,List.setIfInBounds_toArray,List.set_cons_zero,List.set_cons_succ]
     refine wpAnyH_ready (rs:=[1]) (by kernel_rfl) (by simp) (AllReadyH.cons rfl (fun K hK => ?_) AllReadyH.nil)
     go_simp
     refine (inv_rd p A5 c5 A6 c6 _ ((rp.s2 hst0.out).below hS)).mono ?_
     rintro e W ⟨I5,i5,I6,i6,rfl,ri,hb⟩
     replace hS:=hS.trans (hb.mono hS.size)
     clear hb
     refine hK.out _ _ hS (fun _ => ?_)
     clear hK K
     refine wpAnyH_ready (rs:=[3]) (by kernel_rfl) (by simp) (AllReadyH.cons rfl (fun K hK => ?_) AllReadyH.nil)
     go_simp
     refine (alike_at (invS p) q I5 i5 I6 i6 B5 d5 B6 d6 _ (okp_inv hp) ri ((rq.s2 hst0.out).below hS)).mono ?_
     rw [Al.out]
     rintro e W ⟨rfl,hb⟩
     replace hS:=hS.trans (hb.mono hS.size)
     clear hb
     refine hK.out _ _ hS (fun _ => ?_)
     clear hK K
     refine' tkE 4 27 hS ?_ ?_; rotate_left
     ·intro W' hSW; go_simp; (try with_reducible rfl)
     simp only [Act.put,List.setIfInBounds_toArray,List.set_cons_zero,List.set_cons_succ]
     refine wpAnyH_done (by kernel_rfl) ?_ _
     go_wp2
     go_meet
     case rel => exact ⟨rfl,⟨hst0.out.later hS⟩⟩
    case rest =>
     clear hst0 hst
     obtain ⟨rfl,hS⟩:=hcut
     have hst:=hS.out
     clear hS
     cases al with
     | true =>
      go_wp2
      have hj : joinS p q = some none:=by rw [joinS_eq]; unfold joinB; simp only [Bp.out,Bq.out,H6.out,Al.out,Bool.and_self,Bool.true_and,Bool.false_and,Bool.and_true,Bool.and_false,if_true,if_false,Bool.false_eq_true,reduceIte]
      rw [hj]
      clear hj
      go_ret2
      exact ⟨rfl,hst.below⟩
     | false =>
      obtain ⟨pc0,pc1,pc2,pc3,pc4,pc5,pc6⟩:=cells7 hst.p
      obtain ⟨pf0,pf1,pf2,pf3,pf4,pf5,pf6⟩:=frozen7 hst.p
      obtain ⟨qc0,qc1,qc2,qc3,qc4,qc5,qc6⟩:=cells7 hst.q
      obtain ⟨qf0,qf1,qf2,qf3,qf4,qf5,qf6⟩:=frozen7 hst.q
      cases b6 with
      | false =>
       cases p10 : (p.f0 == 10) with
       | false =>
        go_wp2
        have hj : joinS p q = none:=by rw [joinS_eq]; unfold joinB; simp only [Bp.out,Bq.out,H6.out,Al.out,p10,Bool.and_self,Bool.true_and,Bool.false_and,Bool.and_true,Bool.and_false,if_true,if_false,Bool.false_eq_true,reduceIte]
        rw [hj]
        clear hj
        go_ret2
        exact ⟨rfl,hst.below⟩
       | true =>
        cases q10 : (q.f0 == 10) with
        | false =>
         go_wp2
         have hj : joinS p q = none:=by rw [joinS_eq]; unfold joinB; simp only [Bp.out,Bq.out,H6.out,Al.out,p10,q10,Bool.and_self,Bool.true_and,Bool.false_and,Bool.and_true,Bool.and_false,if_true,if_false,Bool.false_eq_true,reduceIte]
         rw [hj]
         clear hj
         go_ret2
         exact ⟨rfl,hst.below⟩
        | true =>
         cases qp : (q.f1.toList == p.f2.toList) with
         | false =>
          go_wp2
          have hj : joinS p q = none:=by rw [joinS_eq]; unfold joinB; simp only [Bp.out,Bq.out,H6.out,Al.out,p10,q10,qp,Bool.and_self,Bool.true_and,Bool.false_and,Bool.and_true,Bool.and_false,if_true,if_false,Bool.false_eq_true,reduceIte]
          rw [hj]
          clear hj
          go_ret2
          exact ⟨rfl,hst.below⟩
         | true =>
          go_wp2_with (fail)
          refine (apart_s2 _ p.f1 q.f2 hst).mono ?_
          clear pc0 pc1 pc2 pc3 pc4 pc5 pc6 pf0 pf1 pf2 pf3 pf4 pf5 pf6 qc0 qc1 qc2 qc3 qc4 qc5 qc6 qf0 qf1 qf2 qf3 qf4 qf5 qf6
          rintro e w3 ⟨rfl,hst⟩
          obtain ⟨pc0,pc1,pc2,pc3,pc4,pc5,pc6⟩:=cells7 hst.p
          obtain ⟨pf0,pf1,pf2,pf3,pf4,pf5,pf6⟩:=frozen7 hst.p
          obtain ⟨qc0,qc1,qc2,qc3,qc4,qc5,qc6⟩:=cells7 hst.q
          obtain ⟨qf0,qf1,qf2,qf3,qf4,qf5,qf6⟩:=frozen7 hst.q
          cases ap : apartB p.f1 q.f2 with
          | false =>
           go_wp2
           have hj : joinS p q = none:=by rw [joinS_eq]; unfold joinB; simp only [Bp.out,Bq.out,H6.out,Al.out,p10,q10,qp,ap,Bool.and_self,Bool.true_and,Bool.false_and,Bool.and_true,Bool.and_false,if_true,if_false,Bool.false_eq_true,reduceIte]
           rw [hj]
           clear hj
           go_ret2
           exact ⟨rfl,hst.below⟩
          | true =>
           go_wp2
           have hj : joinS p q = some (some { p with f2:=q.f2 }):=by rw [joinS_eq]; unfold joinB; simp only [Bp.out,Bq.out,H6.out,Al.out,p10,q10,qp,ap,Bool.and_self,Bool.true_and,Bool.false_and,Bool.and_true,Bool.and_false,if_true,if_false,Bool.false_eq_true,reduceIte]
           rw [hj]
           clear hj
           go_ret2
           exact join_one hst 2 _ { p with f2:=q.f2 } A5 c5 A6 c6 (rp0.of rfl rfl)
      | true =>
       cases k9 : (p.f0 == 9) with
       | false =>
        cases k7 : (p.f0 == 7) with
        | false =>
         cases p10 : (p.f0 == 10) with
         | false =>
          go_wp2
          have hj : joinS p q = none:=by rw [joinS_eq]; unfold joinB; simp only [Bp.out,Bq.out,H6.out,Al.out,k9,k7,p10,Bool.and_self,Bool.true_and,Bool.false_and,Bool.and_true,Bool.and_false,if_true,if_false,Bool.false_eq_true,reduceIte]
          rw [hj]
          clear hj
          go_ret2
          exact ⟨rfl,hst.below⟩
         | true =>
          cases q10 : (q.f0 == 10) with
          | false =>
           go_wp2
           have hj : joinS p q = none:=by rw [joinS_eq]; unfold joinB; simp only [Bp.out,Bq.out,H6.out,Al.out,k9,k7,p10,q10,Bool.and_self,Bool.true_and,Bool.false_and,Bool.and_true,Bool.and_false,if_true,if_false,Bool.false_eq_true,reduceIte]
           rw [hj]
           clear hj
           go_ret2
           exact ⟨rfl,hst.below⟩
          | true =>
           cases qp : (q.f1.toList == p.f2.toList) with
           | false =>
            go_wp2
            have hj : joinS p q = none:=by rw [joinS_eq]; unfold joinB; simp only [Bp.out,Bq.out,H6.out,Al.out,k9,k7,p10,q10,qp,Bool.and_self,Bool.true_and,Bool.false_and,Bool.and_true,Bool.and_false,if_true,if_false,Bool.false_eq_true,reduceIte]
            rw [hj]
            clear hj
            go_ret2
            exact ⟨rfl,hst.below⟩
           | true =>
            go_wp2_with (fail)
            refine (apart_s2 _ p.f1 q.f2 hst).mono ?_
            clear pc0 pc1 pc2 pc3 pc4 pc5 pc6 pf0 pf1 pf2 pf3 pf4 pf5 pf6 qc0 qc1 qc2 qc3 qc4 qc5 qc6 qf0 qf1 qf2 qf3 qf4 qf5 qf6
            rintro e w4 ⟨rfl,hst⟩
            obtain ⟨pc0,pc1,pc2,pc3,pc4,pc5,pc6⟩:=cells7 hst.p
            obtain ⟨pf0,pf1,pf2,pf3,pf4,pf5,pf6⟩:=frozen7 hst.p
            obtain ⟨qc0,qc1,qc2,qc3,qc4,qc5,qc6⟩:=cells7 hst.q
            obtain ⟨qf0,qf1,qf2,qf3,qf4,qf5,qf6⟩:=frozen7 hst.q
            cases ap : apartB p.f1 q.f2 with
            | false =>
             go_wp2
             have hj : joinS p q = none:=by rw [joinS_eq]; unfold joinB; simp only [Bp.out,Bq.out,H6.out,Al.out,k9,k7,p10,q10,qp,ap,Bool.and_self,Bool.true_and,Bool.false_and,Bool.and_true,Bool.and_false,if_true,if_false,Bool.false_eq_true,reduceIte]
             rw [hj]
             clear hj
             go_ret2
             exact ⟨rfl,hst.below⟩
            | true =>
             go_wp2
             have hj : joinS p q = some (some { p with f2:=q.f2 }):=by rw [joinS_eq]; unfold joinB; simp only [Bp.out,Bq.out,H6.out,Al.out,k9,k7,p10,q10,qp,ap,Bool.and_self,Bool.true_and,Bool.false_and,Bool.and_true,Bool.and_false,if_true,if_false,Bool.false_eq_true,reduceIte]
             rw [hj]
             clear hj
             go_ret2
             exact join_one hst 2 _ { p with f2:=q.f2 } A5 c5 A6 c6 (rp0.of rfl rfl)
        | true =>
         have e7 : p.f0 = 7:=by simpa using k7
         have p10 : (p.f0 == 10) = false:=by rw [e7]; decide
         clear e7
         cases f4 : (p.f4 == q.f4) with
         | false =>
          go_wp2
          have hj : joinS p q = none:=by rw [joinS_eq]; unfold joinB; simp only [Bp.out,Bq.out,H6.out,Al.out,k9,k7,p10,f4,Bool.and_self,Bool.true_and,Bool.false_and,Bool.and_true,Bool.and_false,if_true,if_false,Bool.false_eq_true,reduceIte]
          rw [hj]
          clear hj
          go_ret2
          exact ⟨rfl,hst.below⟩
         | true =>
          go_wp2_with (fail)
          refine (equal_s2 _ p.f6 q.f5 A6 c6 B5 d5 hp.ok.2 rp.g6 rp.l6 rq.g5 rq.l5 hst).mono ?_
          clear pc0 pc1 pc2 pc3 pc4 pc5 pc6 pf0 pf1 pf2 pf3 pf4 pf5 pf6 qc0 qc1 qc2 qc3 qc4 qc5 qc6 qf0 qf1 qf2 qf3 qf4 qf5 qf6
          rintro e w5 ⟨rfl,hst⟩
          obtain ⟨pc0,pc1,pc2,pc3,pc4,pc5,pc6⟩:=cells7 hst.p
          obtain ⟨pf0,pf1,pf2,pf3,pf4,pf5,pf6⟩:=frozen7 hst.p
          obtain ⟨qc0,qc1,qc2,qc3,qc4,qc5,qc6⟩:=cells7 hst.q
          obtain ⟨qf0,qf1,qf2,qf3,qf4,qf5,qf6⟩:=frozen7 hst.q
          cases el : eqL p.f6 q.f5 with
          | false =>
           go_wp2
           have hj : joinS p q = none:=by rw [joinS_eq]; unfold joinB; simp only [Bp.out,Bq.out,H6.out,Al.out,k9,k7,p10,f4,el,Bool.and_self,Bool.true_and,Bool.false_and,Bool.and_true,Bool.and_false,if_true,if_false,Bool.false_eq_true,reduceIte]
           rw [hj]
           clear hj
           go_ret2
           exact ⟨rfl,hst.below⟩
          | true =>
           go_wp2
           have hj : joinS p q = some (some { p with f6:=q.f6 }):=by rw [joinS_eq]; unfold joinB; simp only [Bp.out,Bq.out,H6.out,Al.out,k9,k7,p10,f4,el,Bool.and_self,Bool.true_and,Bool.false_and,Bool.and_true,Bool.and_false,if_true,if_false,Bool.false_eq_true,reduceIte]
           rw [hj]
           clear hj
           go_ret2
           exact join_one hst 6 _ { p with f6:=q.f6 } A5 c5 B6 d6 ⟨rp0.g5,rp0.l5,rq0.g6,rq0.l6⟩
       | true =>
        have e9 : p.f0 = 9:=by simpa using k9
        have k7 : (p.f0 == 7) = false:=by rw [e9]; decide
        have p10 : (p.f0 == 10) = false:=by rw [e9]; decide
        clear e9
        cases fq : (q.f3.toList == p.f2.toList) with
        | false =>
         go_wp2
         have hj : joinS p q = none:=by rw [joinS_eq]; unfold joinB; simp only [Bp.out,Bq.out,H6.out,Al.out,k9,k7,p10,fq,Bool.and_self,Bool.true_and,Bool.false_and,Bool.and_true,Bool.and_false,if_true,if_false,Bool.false_eq_true,reduceIte]
         rw [hj]
         clear hj
         go_ret2
         exact ⟨rfl,hst.below⟩
        | true =>
         go_wp2
         have hj : joinS p q = some (some { p with f2:=q.f2 }):=by rw [joinS_eq]; unfold joinB; simp only [Bp.out,Bq.out,H6.out,Al.out,k9,k7,p10,fq,Bool.and_self,Bool.true_and,Bool.false_and,Bool.and_true,Bool.and_false,if_true,if_false,Bool.false_eq_true,reduceIte]
         rw [hj]
         clear hj
         go_ret2
         exact join_one hst 2 _ { p with f2:=q.f2 } A5 c5 A6 c6 (rp0.of rfl rfl)
theorem ret26 {tmps : Array Value} {W : World} {gy : Nat} {y0 y1 y2 y3 y4 y5 y6 v r : Value} (h4 : tmps[4]? = some v) (h5 : tmps[5]? = some (.pointer (some ⟨gy,0,none⟩))) (h6 : tmps[6]? = some r)
  (hy : W.heap[gy]? = some (.cells #[y0,y1,y2,y3,y4,y5,y6] 25 (0,0))) :
  (results Tryz.f43 tmps).run Tryz.prog W = .ok (.tuple #[v,.agg #[y0,y1,y2,y3,y4,y5,y6],r]) W:=by
 have yc0 : W.cell? ⟨gy,0,none⟩ = some y0:=(blk_cell hy 0).trans rfl
 have yc1 : W.cell? ⟨gy,1,none⟩ = some y1:=(blk_cell hy 1).trans rfl
 have yc2 : W.cell? ⟨gy,2,none⟩ = some y2:=(blk_cell hy 2).trans rfl
 have yc3 : W.cell? ⟨gy,3,none⟩ = some y3:=(blk_cell hy 3).trans rfl
 have yc4 : W.cell? ⟨gy,4,none⟩ = some y4:=(blk_cell hy 4).trans rfl
 have yc5 : W.cell? ⟨gy,5,none⟩ = some y5:=(blk_cell hy 5).trans rfl
 have yc6 : W.cell? ⟨gy,6,none⟩ = some y6:=(blk_cell hy 6).trans rfl
 simp [results,Tryz.results43,go_sem, *]
end Go.Proofs.YthhohbidjhcjeaaGreatDoor.H
