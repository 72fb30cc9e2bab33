/- Contracts of the reference's lines: two changes of one text the other way about. Contracts of the rules by which two patches in boxes are commuted. Contracts of path.Moved and of the rules that carry a path. The walk of commute.Commute, whatever the rule is that it takes. -/
import Derived.Test.YthhohbidjhcjeaaDoorTQx0
import Derived.WalkKit
import Derived.Test.YthhohbidjhcjeaaDoorTPp
import Derived.Test.YthhohbidjhcjeaaDoorTQx6
import Derived.Laws.Strings3
import Derived.Laws.EntriesVeiled
namespace Go.Proofs.YthhohbidjhcjeaaDoor.H
open Go.RowKit Go.Proofs.YthhohbidjhcjeaaDoorW.PrintWords Go.Proofs.YthhohbidjhcjeaaDoorW.PrintLast Go.Proofs.YthhohbidjhcjeaaDoorW.PrintMore
open Go.Proofs.YthhohbidjhcjeaaDoor.Q

/-- A patch's cells, its lists as values. -/
abbrev cs (x : S24) (A5 : Option Addr) (c5 : Nat) (A6 : Option Addr) (c6 : Nat) : Array Value:=#[.int .i64 x.f0,.string x.f1,.string x.f2,.string x.f3,.int .i64 x.f4,.slice A5 x.f5.length c5,.slice A6 x.f6.length c6]
/-- What lines makes of two changes. -/
def refLines (p q : S24) : S24 × S24 × Bool :=
 if q.f4 > (p.f6.length : Int) ∧ wrap64 (q.f4 - (p.f6.length : Int)) > p.f4 then ({ q with f4:=wrap64 (wrap64 (q.f4 - (p.f6.length : Int)) + (p.f5.length : Int)) },p,true)
 else if p.f4 > (q.f5.length : Int) ∧ wrap64 (p.f4 - (q.f5.length : Int)) > q.f4 then (q,{ p with f4:=wrap64 (wrap64 (p.f4 - (q.f5.length : Int)) + (q.f6.length : Int)) },true)
 else (q,p,false)
set_option maxHeartbeats 2000000 in
set_option maxRecDepth 100000 in
theorem lines_ref (p q : S24) (A5 : Option Addr) (c5 : Nat) (A6 : Option Addr) (c6 : Nat) (B5 : Option Addr) (d5 : Nat) (B6 : Option Addr) (d6 : Nat) (w : World) :
  Calls Tryd.prog 55 #[.agg (cs p A5 c5 A6 c6),.agg (cs q B5 d5 B6 d6)] w fun e w' =>
   e = .returned (.tuple #[.agg (cs (refLines p q).1 B5 d5 B6 d6),.agg (cs (refLines p q).2.1 A5 c5 A6 c6),.bool (refLines p q).2.2]) ∧ Below w.heap.size w w':=by
 obtain ⟨k,pa,t,f,a,o,n⟩:=p
 obtain ⟨k',pa',t',f',a',o',n'⟩:=q
 obtain ⟨lo,hlo⟩ : ∃ m,o.length = m:=⟨_,rfl⟩
 obtain ⟨ln,hln⟩ : ∃ m,n.length = m:=⟨_,rfl⟩
 obtain ⟨lo',hlo'⟩ : ∃ m,o'.length = m:=⟨_,rfl⟩
 obtain ⟨ln',hln'⟩ : ∃ m,n'.length = m:=⟨_,rfl⟩
 unfold refLines cs
 dsimp only
 rw [hlo,hln,hlo',hln']
 go_enter Tryd.func55,Tryd.ntmps55
 go_wp2
 all_goals go_region
 all_goals go_wp2
 all_goals
  refine bodyPost_ret ?_ rfl ⟨rfl,?_⟩
  ·simp [results,Tryd.results55,go_sem]
  ·repeat (first | exact Below.refl _ _ | refine Below.setCell ?_ (by simp <;> omega) _ | refine Below.alloc ?_ (by simp <;> omega) _ | refine Below.drew ?_)
end Go.Proofs.YthhohbidjhcjeaaDoor.H

namespace Go.Proofs.YthhohbidjhcjeaaDoor.H
open Go.RowKit Go.Proofs.YthhohbidjhcjeaaDoorW.PrintWords Go.Proofs.YthhohbidjhcjeaaDoorW.PrintLast Go.Proofs.YthhohbidjhcjeaaDoorW.PrintMore
open Go.Proofs.YthhohbidjhcjeaaDoor.Q Go.Proofs.YthhohbidjhcjeaaDoor.Pl

set_option maxHeartbeats 2000000 in
set_option maxRecDepth 100000 in
theorem beside_calls (p q : S24) (A5 : Option Addr) (c5 : Nat) (A6 : Option Addr) (c6 : Nat) (B5 : Option Addr) (d5 : Nat) (B6 : Option Addr) (d6 : Nat) (gp gq : Nat) (w : World)
  (hp : w.heap[gp]? = some (.cells #[.int .i64 p.f0,.string p.f1,.string p.f2,.string p.f3,.int .i64 p.f4,.slice A5 p.f5.length c5,.slice A6 p.f6.length c6] 24 (0,0))) (hq : w.heap[gq]? = some (.cells #[.int .i64 q.f0,.string q.f1,.string q.f2,.string q.f3,.int .i64 q.f4,.slice B5 q.f5.length d5,.slice B6 q.f6.length d6] 24 (0,0))) :
  Calls Tryd.prog 85 #[.pointer (some ⟨gp,0,none⟩),.pointer (some ⟨gq,0,none⟩)] w fun e w' => e = .returned (.bool (p.f1.toList != q.f1.toList)) ∧ Below w.heap.size w w':=by
 have pc0 : w.cell? ⟨gp,0,none⟩ = some (.int .i64 p.f0):=(blk_cell hp 0).trans rfl
 have pf0:=blk_frozen hp 0
 have pc1 : w.cell? ⟨gp,1,none⟩ = some (.string p.f1):=(blk_cell hp 1).trans rfl
 have pf1:=blk_frozen hp 1
 have pc2 : w.cell? ⟨gp,2,none⟩ = some (.string p.f2):=(blk_cell hp 2).trans rfl
 have pf2:=blk_frozen hp 2
 have pc3 : w.cell? ⟨gp,3,none⟩ = some (.string p.f3):=(blk_cell hp 3).trans rfl
 have pf3:=blk_frozen hp 3
 have pc4 : w.cell? ⟨gp,4,none⟩ = some (.int .i64 p.f4):=(blk_cell hp 4).trans rfl
 have pf4:=blk_frozen hp 4
 have pc5 : w.cell? ⟨gp,5,none⟩ = some (.slice A5 p.f5.length c5):=(blk_cell hp 5).trans rfl
 have pf5:=blk_frozen hp 5
 have pc6 : w.cell? ⟨gp,6,none⟩ = some (.slice A6 p.f6.length c6):=(blk_cell hp 6).trans rfl
 have pf6:=blk_frozen hp 6
 have qc0 : w.cell? ⟨gq,0,none⟩ = some (.int .i64 q.f0):=(blk_cell hq 0).trans rfl
 have qf0:=blk_frozen hq 0
 have qc1 : w.cell? ⟨gq,1,none⟩ = some (.string q.f1):=(blk_cell hq 1).trans rfl
 have qf1:=blk_frozen hq 1
 have qc2 : w.cell? ⟨gq,2,none⟩ = some (.string q.f2):=(blk_cell hq 2).trans rfl
 have qf2:=blk_frozen hq 2
 have qc3 : w.cell? ⟨gq,3,none⟩ = some (.string q.f3):=(blk_cell hq 3).trans rfl
 have qf3:=blk_frozen hq 3
 have qc4 : w.cell? ⟨gq,4,none⟩ = some (.int .i64 q.f4):=(blk_cell hq 4).trans rfl
 have qf4:=blk_frozen hq 4
 have qc5 : w.cell? ⟨gq,5,none⟩ = some (.slice B5 q.f5.length d5):=(blk_cell hq 5).trans rfl
 have qf5:=blk_frozen hq 5
 have qc6 : w.cell? ⟨gq,6,none⟩ = some (.slice B6 q.f6.length d6):=(blk_cell hq 6).trans rfl
 have qf6:=blk_frozen hq 6
 go_enter Tryd.func85,Tryd.ntmps85
 go_wp2
 all_goals go_region
 all_goals go_wp2
 all_goals go_ret
 all_goals exact ⟨rfl,by repeat (first | exact Below.refl _ _ | refine Below.drew ?_)⟩
/-- A block of texts, read as a row. -/
theorem texts_read {W : World} {g : Nat} {l : List ByteArray} (h : W.heap[g]? = some (.cells (l.map Value.string).toArray 9 (0,0))) (hl : l.length ≤ 9223372036854775807) : Kd.C Kd.string W (some ⟨g,0,none⟩) l.length l:=by
 refine ⟨rfl,hl,fun _ => ⟨_,rfl,fun j x hj => ⟨[.string x],rfl,rfl,fun i u hu => ?_⟩⟩⟩
 cases i with
 | zero =>
  obtain rfl : Value.string x = u:=by simpa using hu
  have hc:=blk_cell h j
  have e : (⟨g,0,none⟩ : Addr).add (j * 1 + 0) = ⟨g,j,none⟩:=by simp [Addr.add]; omega
  show W.cell? ((⟨g,0,none⟩ : Addr).add (j * 1 + 0)) = _
  rw [e,hc]
  simp [hj]
 | succ i => simp at hu
/-- The paths of a patch. -/
def pathsS (x : S24) : List ByteArray:=if x.f0 = 10 then [x.f1,x.f2] else [x.f1]
set_option maxHeartbeats 2000000 in
set_option maxRecDepth 100000 in
theorem paths_calls (p : S24) (A5 : Option Addr) (c5 : Nat) (A6 : Option Addr) (c6 : Nat) (gp : Nat) (w : World) (hp : w.heap[gp]? = some (.cells #[.int .i64 p.f0,.string p.f1,.string p.f2,.string p.f3,.int .i64 p.f4,.slice A5 p.f5.length c5,.slice A6 p.f6.length c6] 24 (0,0))) :
  Calls Tryd.prog 107 #[.pointer (some ⟨gp,0,none⟩)] w fun e w' => ∃ A c,e = .returned (.slice A (pathsS p).length c) ∧ (pathsS p).length ≤ c ∧ Kd.C Kd.string w' A (pathsS p).length (pathsS p) ∧ Below w.heap.size w w':=by
 have pc0 : w.cell? ⟨gp,0,none⟩ = some (.int .i64 p.f0):=(blk_cell hp 0).trans rfl
 have pf0:=blk_frozen hp 0
 have pc1 : w.cell? ⟨gp,1,none⟩ = some (.string p.f1):=(blk_cell hp 1).trans rfl
 have pf1:=blk_frozen hp 1
 have pc2 : w.cell? ⟨gp,2,none⟩ = some (.string p.f2):=(blk_cell hp 2).trans rfl
 have pf2:=blk_frozen hp 2
 have pc3 : w.cell? ⟨gp,3,none⟩ = some (.string p.f3):=(blk_cell hp 3).trans rfl
 have pf3:=blk_frozen hp 3
 have pc4 : w.cell? ⟨gp,4,none⟩ = some (.int .i64 p.f4):=(blk_cell hp 4).trans rfl
 have pf4:=blk_frozen hp 4
 have pc5 : w.cell? ⟨gp,5,none⟩ = some (.slice A5 p.f5.length c5):=(blk_cell hp 5).trans rfl
 have pf5:=blk_frozen hp 5
 have pc6 : w.cell? ⟨gp,6,none⟩ = some (.slice A6 p.f6.length c6):=(blk_cell hp 6).trans rfl
 have pf6:=blk_frozen hp 6
 unfold pathsS
 by_cases h : p.f0 = 10
 ·have hb : (p.f0 == 10) = true:=by simpa using h
  rw [if_pos h]
  clear h
  go_enter Tryd.func107,Tryd.ntmps107
  go_wp2
  all_goals go_region
  all_goals go_wp2
  all_goals go_ret
  all_goals exact ⟨_,_,rfl,Nat.le_refl _,texts_read (l:=[p.f1,p.f2]) (World.alloc_heap_new w _) (by simp),((Below.refl _ w).alloc (Nat.le_refl _) _).drew⟩
 ·have hb : (p.f0 == 10) = false:=by simpa using h
  rw [if_neg h]
  clear h
  go_enter Tryd.func107,Tryd.ntmps107
  go_wp2
  go_ret
  exact ⟨_,_,rfl,Nat.le_refl _,texts_read (l:=[p.f1]) (World.alloc_heap_new w _) (by simp),(Below.refl _ w).alloc (Nat.le_refl _) _⟩
/-- Does no path of one lie in a path of the other? -/
def apartL (a b : List ByteArray) : Bool:=a.all (fun x => b.all (fun y => apartB x y))
theorem apart_l1 (a b : List ByteArray) (ha : a.length ≤ 140737488355328) (hb : b.length ≤ 140737488355328) (i : Nat) (hi : i < a.length) (r : Bool) (hr : Ev (fun k => commute_apart.l0 k b a (a.length : Int) ((i + 1 : Nat) : Int)) r) :
  ∀ (d j : Nat),j + d = b.length → Ev (fun k => commute_apart.l1 k b a[i] a (a.length : Int) (i : Int) b (b.length : Int) (j : Int)) ((b.drop j).all (fun y => apartB a[i] y) && r):=by
 intro d
 induction d with
 | zero =>
  intro j hj
  rw [List.drop_of_length_le (by omega)]
  refine Ev.step (f:=fun k => commute_apart.l0 k b a (a.length : Int) ((i + 1 : Nat) : Int)) (fun k => ?_) (by simpa using hr)
  simp only [commute_apart.l1]
  rw [if_neg (by omega),wrap_1 hi ha]
 | succ d ih =>
  intro j hj
  have h1 : j < b.length:=by omega
  have key:=ih (j + 1) (by omega)
  rw [List.drop_eq_getElem_cons h1,List.all_cons]
  cases hx : apartB a[i] b[j] with
  | true =>
   rw [Bool.true_and]
   refine Ev.step (fun k => ?_) key
   simp only [commute_apart.l1]
   rw [if_pos (by omega),if_pos (by omega),if_pos (by omega),rdOf_get _ _ h1,apart_f,hx,Option.bind_some,if_pos rfl,wrap_1 h1 hb]
  | false =>
   rw [Bool.false_and,Bool.false_and]
   refine Ev.step (f:=fun _ => some false) (fun k => ?_) (Ev.now _)
   simp only [commute_apart.l1]
   rw [if_pos (by omega),if_pos (by omega),if_pos (by omega),rdOf_get _ _ h1,apart_f,hx,Option.bind_some,if_neg (by simp)]
theorem apart_l0 (a b : List ByteArray) (ha : a.length ≤ 140737488355328) (hb : b.length ≤ 140737488355328) : ∀ (d i : Nat),i + d = a.length → Ev (fun k => commute_apart.l0 k b a (a.length : Int) (i : Int)) (apartL (a.drop i) b):=by
 intro d
 induction d with
 | zero =>
  intro i hi
  rw [List.drop_of_length_le (by omega)]
  refine Ev.step (f:=fun _ => some true) (fun k => ?_) (Ev.now _)
  simp only [commute_apart.l0]
  rw [if_neg (by omega)]
 | succ d ih =>
  intro i hi
  have h1 : i < a.length:=by omega
  have key:=apart_l1 a b ha hb i h1 _ (ih (i + 1) (by omega)) b.length 0 (by omega)
  rw [List.drop_zero] at key
  rw [List.drop_eq_getElem_cons h1,apartL,List.all_cons]
  refine Ev.step (fun k => ?_) key
  simp only [commute_apart.l0]
  rw [if_pos (by omega),if_pos (by omega),if_pos (by omega),rdOf_get _ _ h1]
  rfl
theorem apart_list (a b : List ByteArray) (ha : a.length ≤ 140737488355328) (hb : b.length ≤ 140737488355328) : Ev (fun k => commute_apart.f k a b) (apartL a b):=by
 have h:=apart_l0 a b ha hb a.length 0 (by omega)
 rw [List.drop_zero] at h
 exact h
theorem paths_len (x : S24) : (pathsS x).length ≤ 140737488355328:=by
 unfold pathsS
 split <;> simp
set_option maxHeartbeats 2000000 in
set_option maxRecDepth 100000 in
theorem still_calls (p q : S24) (A5 : Option Addr) (c5 : Nat) (A6 : Option Addr) (c6 : Nat) (B5 : Option Addr) (d5 : Nat) (B6 : Option Addr) (d6 : Nat) (gp gq : Nat) (w : World)
  (hp : w.heap[gp]? = some (.cells #[.int .i64 p.f0,.string p.f1,.string p.f2,.string p.f3,.int .i64 p.f4,.slice A5 p.f5.length c5,.slice A6 p.f6.length c6] 24 (0,0))) (hq : w.heap[gq]? = some (.cells #[.int .i64 q.f0,.string q.f1,.string q.f2,.string q.f3,.int .i64 q.f4,.slice B5 q.f5.length d5,.slice B6 q.f6.length d6] 24 (0,0))) :
  Calls Tryd.prog 84 #[.pointer (some ⟨gp,0,none⟩),.pointer (some ⟨gq,0,none⟩)] w fun e w' => e = .returned (.bool (apartL (pathsS p) (pathsS q))) ∧ Below w.heap.size w w':=by
 obtain ⟨k,hk⟩:=(apart_list (pathsS p) (pathsS q) (paths_len p) (paths_len q)).rounds
 go_enter Tryd.func84,Tryd.ntmps84
 go_wp2_with (fail)
 refine (paths_calls p A5 c5 A6 c6 gp w hp).mono ?_
 rintro e w1 ⟨X,cx,rfl,lx,hX,hb1⟩
 go_wp2_with (fail)
 refine (paths_calls q B5 d5 B6 d6 gq w1 ((hb1.block _ (Array.getElem?_eq_some_iff.1 hq).1).trans hq)).mono ?_
 rintro e w2 ⟨Y,cy,rfl,ly,hY,hb2⟩
 go_wp2_with (fail)
 refine (commute_apart.calls k X cx _ Y cy _ _ w2 (Kd.C_below hX hb2) lx hY ly hk).mono ?_
 rintro e w3 ⟨rfl,m,rfl⟩
 go_wp2
 go_ret
 exact ⟨rfl,pw_below_drewN (hb1.trans (hb2.mono hb1.size)) m⟩
/-- What a rule leaves: the two boxes hold what it says, all else that lay lies as it lay. -/
structure Left2 (w : World) (gp gq : Nat) (cp cq : Array Value) (w' : World) : Prop where
 p : w'.heap[gp]? = some (.cells cp 24 (0,0))
 q : w'.heap[gq]? = some (.cells cq 24 (0,0))
 size : w.heap.size ≤ w'.heap.size
 other : ∀ k,k < w.heap.size → k ≠ gp → k ≠ gq → w'.heap[k]? = w.heap[k]?
 below : ∀ (B : Nat) (w0 : World),Below B w0 w → B ≤ gp → B ≤ gq → Below B w0 w'
theorem Left2.of_below {w w' : World} {gp gq : Nat} {cp cq : Array Value} (hp : w.heap[gp]? = some (.cells cp 24 (0,0))) (hq : w.heap[gq]? = some (.cells cq 24 (0,0))) (h : Below w.heap.size w w') : Left2 w gp gq cp cq w' :=
 ⟨(h.block _ (Array.getElem?_eq_some_iff.1 hp).1).trans hp,(h.block _ (Array.getElem?_eq_some_iff.1 hq).1).trans hq,h.size,fun k hk _ _ => h.block k hk,fun B w0 hb h1 _ => hb.trans (h.mono (by have:=(Array.getElem?_eq_some_iff.1 hp).1; omega))⟩
/-- One field of the first box is written. -/
theorem Left2.set_p {w : World} {gp gq i : Nat} {cp cq : Array Value} {v : Value} (hne : gp ≠ gq) (hp : w.heap[gp]? = some (.cells cp 24 (0,0))) (hq : w.heap[gq]? = some (.cells cq 24 (0,0))) : Left2 w gp gq (cp.setIfInBounds i v) cq (w.setCell ⟨gp,i,none⟩ v) :=
 ⟨blk_set hp i v,blk_far hq (Ne.symm hne) v,by simp,fun k _ h1 _ => Below.heap_setCell w _ v k h1,fun _ _ hb h1 _ => Below.setCell (p:=⟨gp,i,none⟩) hb h1 _⟩
theorem Left2.set_q {w : World} {gp gq i : Nat} {cp cq : Array Value} {v : Value} (hne : gp ≠ gq) (hp : w.heap[gp]? = some (.cells cp 24 (0,0))) (hq : w.heap[gq]? = some (.cells cq 24 (0,0))) : Left2 w gp gq cp (cq.setIfInBounds i v) (w.setCell ⟨gq,i,none⟩ v) :=
 ⟨blk_far hp hne v,blk_set hq i v,by simp,fun k _ _ h1 => Below.heap_setCell w _ v k h1,fun _ _ hb _ h1 => Below.setCell (p:=⟨gq,i,none⟩) hb h1 _⟩
theorem Left2.trans {w w1 w2 : World} {gp gq : Nat} {cp cq cp' cq' : Array Value} (h : Left2 w gp gq cp cq w1) (k : Left2 w1 gp gq cp' cq' w2) : Left2 w gp gq cp' cq' w2 :=
 ⟨k.p,k.q,Nat.le_trans h.size k.size,fun j hj h1 h2 => (k.other j (Nat.lt_of_lt_of_le hj h.size) h1 h2).trans (h.other j hj h1 h2),fun B w0 hb h1 h2 => k.below B w0 (h.below B w0 hb h1 h2) h1 h2⟩
theorem Left2.drew {w w' : World} {gp gq : Nat} {cp cq : Array Value} (h : Left2 w gp gq cp cq w') : Left2 w gp gq cp cq w'.drew:=⟨h.p,h.q,h.size,h.other,fun B w0 a b c => (h.below B w0 a b c).drew⟩
/-- Two changes: what the program's rule makes of them. -/
def bothS (p q : S24) : S24 × S24 × Bool :=
 if p.f1.toList = q.f1.toList then
  if p.f0 = 7 ∧ q.f0 = 7 then
   if wrap64 (q.f4 - (p.f6.length : Int)) > p.f4 then (p,{ q with f4:=wrap64 (q.f4 + wrap64 ((p.f5.length : Int) - (p.f6.length : Int))) },true)
   else if wrap64 (p.f4 - (q.f5.length : Int)) > q.f4 then ({ p with f4:=wrap64 (p.f4 + wrap64 ((q.f6.length : Int) - (q.f5.length : Int))) },q,true)
   else (p,q,false)
  else (p,q,false)
 else (p,q,true)
set_option maxHeartbeats 4000000 in
set_option maxRecDepth 100000 in
theorem both_calls (p q : S24) (A5 : Option Addr) (c5 : Nat) (A6 : Option Addr) (c6 : Nat) (B5 : Option Addr) (d5 : Nat) (B6 : Option Addr) (d6 : Nat) (gp gq : Nat) (hne : gp ≠ gq) (w : World)
  (hp : w.heap[gp]? = some (.cells #[.int .i64 p.f0,.string p.f1,.string p.f2,.string p.f3,.int .i64 p.f4,.slice A5 p.f5.length c5,.slice A6 p.f6.length c6] 24 (0,0))) (hq : w.heap[gq]? = some (.cells #[.int .i64 q.f0,.string q.f1,.string q.f2,.string q.f3,.int .i64 q.f4,.slice B5 q.f5.length d5,.slice B6 q.f6.length d6] 24 (0,0))) :
  Calls Tryd.prog 86 #[.pointer (some ⟨gp,0,none⟩),.pointer (some ⟨gq,0,none⟩)] w fun e w' => e = .returned (.bool (bothS p q).2.2) ∧ Left2 w gp gq (cs (bothS p q).1 A5 c5 A6 c6) (cs (bothS p q).2.1 B5 d5 B6 d6) w':=by
 have pc0 : w.cell? ⟨gp,0,none⟩ = some (.int .i64 p.f0):=(blk_cell hp 0).trans rfl
 have pf0:=blk_frozen hp 0
 have pc1 : w.cell? ⟨gp,1,none⟩ = some (.string p.f1):=(blk_cell hp 1).trans rfl
 have pf1:=blk_frozen hp 1
 have pc2 : w.cell? ⟨gp,2,none⟩ = some (.string p.f2):=(blk_cell hp 2).trans rfl
 have pf2:=blk_frozen hp 2
 have pc3 : w.cell? ⟨gp,3,none⟩ = some (.string p.f3):=(blk_cell hp 3).trans rfl
 have pf3:=blk_frozen hp 3
 have pc4 : w.cell? ⟨gp,4,none⟩ = some (.int .i64 p.f4):=(blk_cell hp 4).trans rfl
 have pf4:=blk_frozen hp 4
 have pc5 : w.cell? ⟨gp,5,none⟩ = some (.slice A5 p.f5.length c5):=(blk_cell hp 5).trans rfl
 have pf5:=blk_frozen hp 5
 have pc6 : w.cell? ⟨gp,6,none⟩ = some (.slice A6 p.f6.length c6):=(blk_cell hp 6).trans rfl
 have pf6:=blk_frozen hp 6
 have qc0 : w.cell? ⟨gq,0,none⟩ = some (.int .i64 q.f0):=(blk_cell hq 0).trans rfl
 have qf0:=blk_frozen hq 0
 have qc1 : w.cell? ⟨gq,1,none⟩ = some (.string q.f1):=(blk_cell hq 1).trans rfl
 have qf1:=blk_frozen hq 1
 have qc2 : w.cell? ⟨gq,2,none⟩ = some (.string q.f2):=(blk_cell hq 2).trans rfl
 have qf2:=blk_frozen hq 2
 have qc3 : w.cell? ⟨gq,3,none⟩ = some (.string q.f3):=(blk_cell hq 3).trans rfl
 have qf3:=blk_frozen hq 3
 have qc4 : w.cell? ⟨gq,4,none⟩ = some (.int .i64 q.f4):=(blk_cell hq 4).trans rfl
 have qf4:=blk_frozen hq 4
 have qc5 : w.cell? ⟨gq,5,none⟩ = some (.slice B5 q.f5.length d5):=(blk_cell hq 5).trans rfl
 have qf5:=blk_frozen hq 5
 have qc6 : w.cell? ⟨gq,6,none⟩ = some (.slice B6 q.f6.length d6):=(blk_cell hq 6).trans rfl
 have qf6:=blk_frozen hq 6
 unfold bothS
 by_cases h1 : p.f1.toList = q.f1.toList
 ·have b1 : (p.f1.toList != q.f1.toList) = false:=by simpa using h1
  have b1' : (p.f1.toList == q.f1.toList) = true:=by simpa using h1
  rw [if_pos h1]
  clear h1
  by_cases h7 : p.f0 = 7
  ·have b2 : (p.f0 != 7) = false:=by simpa using h7
   have b2' : (p.f0 == 7) = true:=by simpa using h7
   by_cases h8 : q.f0 = 7
   ·have b3 : (q.f0 != 7) = false:=by simpa using h8
    have b3' : (q.f0 == 7) = true:=by simpa using h8
    rw [if_pos ⟨h7,h8⟩]
    clear h7 h8
    by_cases h3 : wrap64 (q.f4 - (p.f6.length : Int)) > p.f4
    ·have b4 : decide (p.f4 < wrap64 (q.f4 - (p.f6.length : Int))) = true:=decide_eq_true h3
     rw [if_pos h3]
     clear h3
     go_enter Tryd.func86,Tryd.ntmps86
     go_wp2
     all_goals go_region
     all_goals go_wp2
     all_goals go_region
     all_goals go_wp2
     all_goals go_region
     all_goals go_wp2
     all_goals go_ret
     all_goals exact ⟨rfl,by repeat (first | exact Left2.set_q (i:=4) hne hp hq | refine Left2.drew ?_)⟩
    ·have b4 : decide (p.f4 < wrap64 (q.f4 - (p.f6.length : Int))) = false:=decide_eq_false h3
     rw [if_neg h3]
     clear h3
     by_cases h5 : wrap64 (p.f4 - (q.f5.length : Int)) > q.f4
     ·have b5 : decide (q.f4 < wrap64 (p.f4 - (q.f5.length : Int))) = true:=decide_eq_true h5
      rw [if_pos h5]
      clear h5
      go_enter Tryd.func86,Tryd.ntmps86
      go_wp2
      all_goals go_region
      all_goals go_wp2
      all_goals go_region
      all_goals go_wp2
      all_goals go_region
      all_goals go_wp2
      all_goals go_region
      all_goals go_wp2
      all_goals go_ret
      all_goals exact ⟨rfl,by repeat (first | exact Left2.set_p (i:=4) hne hp hq | refine Left2.drew ?_)⟩
     ·have b5 : decide (q.f4 < wrap64 (p.f4 - (q.f5.length : Int))) = false:=decide_eq_false h5
      rw [if_neg h5]
      clear h5
      go_enter Tryd.func86,Tryd.ntmps86
      go_wp2
      all_goals go_region
      all_goals go_wp2
      all_goals go_region
      all_goals go_wp2
      all_goals go_region
      all_goals go_wp2
      all_goals go_ret
      all_goals exact ⟨rfl,Left2.of_below hp hq (by repeat (first | exact Below.refl _ _ | refine Below.drew ?_))⟩
   ·have b3 : (q.f0 != 7) = true:=by simpa using h8
    have b3' : (q.f0 == 7) = false:=by simpa using h8
    rw [if_neg (fun h => h8 h.2)]
    clear h7 h8
    go_enter Tryd.func86,Tryd.ntmps86
    go_wp2
    all_goals go_region
    all_goals go_wp2
    all_goals go_ret
    all_goals exact ⟨rfl,Left2.of_below hp hq (by repeat (first | exact Below.refl _ _ | refine Below.drew ?_))⟩
  ·have b2 : (p.f0 != 7) = true:=by simpa using h7
   have b2' : (p.f0 == 7) = false:=by simpa using h7
   rw [if_neg (fun h => h7 h.1)]
   clear h7
   go_enter Tryd.func86,Tryd.ntmps86
   go_wp2
   all_goals go_region
   all_goals go_wp2
   all_goals go_ret
   all_goals exact ⟨rfl,Left2.of_below hp hq (by repeat (first | exact Below.refl _ _ | refine Below.drew ?_))⟩
 ·have b1 : (p.f1.toList != q.f1.toList) = true:=by simpa using h1
  have b1' : (p.f1.toList == q.f1.toList) = false:=by simpa using h1
  rw [if_neg h1]
  clear h1
  go_enter Tryd.func86,Tryd.ntmps86
  go_wp2
  all_goals go_region
  all_goals go_wp2
  all_goals go_ret
  all_goals exact ⟨rfl,Left2.of_below hp hq (by repeat (first | exact Below.refl _ _ | refine Below.drew ?_))⟩
end Go.Proofs.YthhohbidjhcjeaaDoor.H

namespace Go.Proofs.YthhohbidjhcjeaaDoor.H
open Go.RowKit Go.Proofs.YthhohbidjhcjeaaDoorW.PrintWords Go.Proofs.YthhohbidjhcjeaaDoorW.PrintLast Go.Proofs.YthhohbidjhcjeaaDoorW.PrintMore
open Go.Proofs.YthhohbidjhcjeaaDoor.Q Go.Proofs.YthhohbidjhcjeaaDoor.Pl

/-- Where what lies in a place lies when that is moved. -/
def movedS (p fr dst : ByteArray) : ByteArray × Bool:=if withinB p fr = true then (dst ++ p.extract fr.size p.size,true) else (⟨#[]⟩,false)
theorem within_le {a b : ByteArray} (h : withinB a b = true) : b.size ≤ a.size:=by
 unfold withinB at h
 split at h
 ·rename_i h2
  exact h2.2
 ·cases h
set_option maxHeartbeats 1000000 in
set_option maxRecDepth 100000 in
theorem moved_calls (p fr dst : ByteArray) (w : World) (hs : dst.size + p.size ≤ 140737488355328) : Calls Tryd.prog 108 #[.string p,.string fr,.string dst] w fun e w' => e = .returned (.tuple #[.string (movedS p fr dst).1,.bool (movedS p fr dst).2]) ∧ Below w.heap.size w w':=by
 have hW:=path_Within.calls p fr (withinB p fr) w (within_f p fr)
 unfold movedS
 cases hb : withinB p fr with
 | false =>
  rw [hb] at hW
  rw [if_neg (by simp)]
  go_enter Tryd.func108,Tryd.ntmps108
  go_wp2_with (go_at_call 79; refine hW.mono ?_; rintro e w' ⟨rfl,m,rfl⟩)
  refine bodyPost_ret ?_ rfl ⟨rfl,pw_below_drewN (Below.refl _ w) m⟩
  simp [results,Tryd.results108]
 | true =>
  have hle:=within_le hb
  rw [hb] at hW
  rw [if_pos rfl]
  have hlen : (dst.size : Int) + ((p.size - fr.size : Nat) : Int) ≤ 9223372036854775807:=by omega
  have hsl : ∀ W,(Instr.slice 9 (.string p) (some (.int .i64 (fr.size : Int))) none none).run Tryd.prog W = .ok (.string (p.extract fr.size p.size)) W:=fun W => by
   rw [run_slice_string_from_if W 9 p .i64 _ Tryd.underlying9,if_pos ⟨by omega,by omega⟩,Int.toNat_natCast]
  go_enter Tryd.func108,Tryd.ntmps108
  go_wp2_with (go_at_call 79; refine hW.mono ?_; rintro e w' ⟨rfl,m,rfl⟩)
  refine bodyPost_ret ?_ rfl ⟨rfl,pw_below_drewN (Below.refl _ w) m⟩
  simp [results,Tryd.results108]
/-- What a write into one box leaves. -/
structure Left1 (w : World) (g : Nat) (c : Array Value) (w' : World) : Prop where
 p : w'.heap[g]? = some (.cells c 24 (0,0))
 size : w.heap.size ≤ w'.heap.size
 other : ∀ k,k < w.heap.size → k ≠ g → w'.heap[k]? = w.heap[k]?
 below : ∀ (B : Nat) (w0 : World),Below B w0 w → B ≤ g → Below B w0 w'
theorem Left1.of_below {w w' : World} {g : Nat} {c : Array Value} (hp : w.heap[g]? = some (.cells c 24 (0,0))) (h : Below w.heap.size w w') : Left1 w g c w' :=
 ⟨(h.block _ (blk_lt hp)).trans hp,h.size,fun k hk _ => h.block k hk,fun B w0 hb h1 => hb.trans (h.mono (by have:=blk_lt hp; omega))⟩
theorem Left1.set {w w1 : World} {g i : Nat} {c : Array Value} {v : Value} (h : Left1 w g c w1) : Left1 w g (c.setIfInBounds i v) (w1.setCell ⟨g,i,none⟩ v) :=
 ⟨blk_set h.p i v,by simpa using h.size,fun k hk h1 => (Below.heap_setCell w1 _ v k h1).trans (h.other k hk h1),fun B w0 hb h1 => Below.setCell (p:=⟨g,i,none⟩) (h.below B w0 hb h1) h1 _⟩
theorem Left1.drew {w w1 : World} {g : Nat} {c : Array Value} (h : Left1 w g c w1) : Left1 w g c w1.drew:=⟨h.p,h.size,h.other,fun B w0 hb h1 => (h.below B w0 hb h1).drew⟩
theorem Left1.two_p {w w' : World} {gp gq : Nat} {cp cq : Array Value} (hne : gp ≠ gq) (hq : w.heap[gq]? = some (.cells cq 24 (0,0))) (h : Left1 w gp cp w') : Left2 w gp gq cp cq w' :=
 ⟨h.p,(h.other gq (blk_lt hq) (Ne.symm hne)).trans hq,h.size,fun k hk h1 _ => h.other k hk h1,fun B w0 hb h1 _ => h.below B w0 hb h1⟩
theorem Left1.two_q {w w' : World} {gp gq : Nat} {cp cq : Array Value} (hne : gp ≠ gq) (hp : w.heap[gp]? = some (.cells cp 24 (0,0))) (h : Left1 w gq cq w') : Left2 w gp gq cp cq w' :=
 ⟨(h.other gp (blk_lt hp) hne).trans hp,h.p,h.size,fun k hk _ h1 => h.other k hk h1,fun B w0 hb _ h1 => h.below B w0 hb h1⟩
/-- A path that is carried from one place to another one. -/
def carryS (s fr dst : ByteArray) : ByteArray × Bool:=if withinB s fr = true then (dst ++ s.extract fr.size s.size,true) else (s,!withinB s dst)
set_option maxHeartbeats 1000000 in
set_option maxRecDepth 100000 in
theorem carry_calls (x : S24) (A5 : Option Addr) (c5 : Nat) (A6 : Option Addr) (c6 : Nat) (g : Nat) (fr dst : ByteArray) (w : World) (hs : dst.size + x.f1.size ≤ 140737488355328) (hp : w.heap[g]? = some (.cells #[.int .i64 x.f0,.string x.f1,.string x.f2,.string x.f3,.int .i64 x.f4,.slice A5 x.f5.length c5,.slice A6 x.f6.length c6] 24 (0,0))) :
  Calls Tryd.prog 88 #[.pointer (some ⟨g,1,none⟩),.string fr,.string dst] w fun e w' => e = .returned (.bool (carryS x.f1 fr dst).2) ∧ Left1 w g #[.int .i64 x.f0,.string (carryS x.f1 fr dst).1,.string x.f2,.string x.f3,.int .i64 x.f4,.slice A5 x.f5.length c5,.slice A6 x.f6.length c6] w':=by
 have hM:=fun W => moved_calls x.f1 fr dst W hs
 have hW:=fun W => path_Within.calls x.f1 dst (withinB x.f1 dst) W (within_f x.f1 dst)
 have pc1 : w.cell? ⟨g,1,none⟩ = some (.string x.f1):=(blk_cell hp 1).trans rfl
 have pf1:=blk_frozen hp 1
 unfold carryS
 unfold movedS at hM
 cases hb : withinB x.f1 fr with
 | false =>
  simp only [hb,Bool.false_eq_true,if_false] at hM ⊢
  obtain ⟨b,hbb⟩ : ∃ b,withinB x.f1 dst = b:=⟨_,rfl⟩
  rw [hbb] at hW ⊢
  clear hbb
  go_enter Tryd.func88,Tryd.ntmps88
  go_wp2_with (fail)
  refine (hM w).mono ?_
  rintro e w1 ⟨rfl,hb1⟩
  have q1 : w1.cell? ⟨g,1,none⟩ = some (.string x.f1):=(blk_cell (blk_below hp hb1) 1).trans rfl
  go_wp2_with (fail)
  refine (hW w1).mono ?_
  rintro e w2 ⟨rfl,m,rfl⟩
  go_wp2
  go_ret
  exact ⟨rfl,Left1.of_below hp (pw_below_drewN hb1 m)⟩
 | true =>
  simp only [hb,if_true] at hM ⊢
  go_enter Tryd.func88,Tryd.ntmps88
  go_wp2_with (fail)
  refine (hM w).mono ?_
  rintro e w1 ⟨rfl,hb1⟩
  have q1 : w1.cell? ⟨g,1,none⟩ = some (.string x.f1):=(blk_cell (blk_below hp hb1) 1).trans rfl
  have qf1:=blk_frozen (blk_below hp hb1) 1
  go_wp2
  go_ret
  exact ⟨rfl,Left1.set (i:=1) (Left1.of_below hp hb1)⟩
theorem Left1.of_drew {w w1 : World} {g : Nat} {c : Array Value} (h : Left1 w.drew g c w1) : Left1 w g c w1:=⟨h.p,h.size,h.other,fun B w0 hb h1 => h.below B w0 hb.drew h1⟩
set_option maxHeartbeats 2000000 in
set_option maxRecDepth 100000 in
theorem rule1_calls (p q : S24) (A5 : Option Addr) (c5 : Nat) (A6 : Option Addr) (c6 : Nat) (B5 : Option Addr) (d5 : Nat) (B6 : Option Addr) (d6 : Nat) (gp gq : Nat) (hne : gp ≠ gq) (w : World)
  (hp : w.heap[gp]? = some (.cells #[.int .i64 p.f0,.string p.f1,.string p.f2,.string p.f3,.int .i64 p.f4,.slice A5 p.f5.length c5,.slice A6 p.f6.length c6] 24 (0,0))) (hq : w.heap[gq]? = some (.cells #[.int .i64 q.f0,.string q.f1,.string q.f2,.string q.f3,.int .i64 q.f4,.slice B5 q.f5.length d5,.slice B6 q.f6.length d6] 24 (0,0))) (hs : q.f2.size + p.f1.size ≤ 140737488355328) :
  Calls Tryd.prog 87 #[.pointer (some ⟨gp,0,none⟩),.pointer (some ⟨gq,0,none⟩)] w fun e w' => e = .returned (.bool (carryS p.f1 q.f1 q.f2).2) ∧ Left2 w gp gq (cs { p with f1:=(carryS p.f1 q.f1 q.f2).1 } A5 c5 A6 c6) (cs q B5 d5 B6 d6) w':=by
 have pc0 : w.cell? ⟨gp,0,none⟩ = some (.int .i64 p.f0):=(blk_cell hp 0).trans rfl
 have pf0:=blk_frozen hp 0
 have pc1 : w.cell? ⟨gp,1,none⟩ = some (.string p.f1):=(blk_cell hp 1).trans rfl
 have pf1:=blk_frozen hp 1
 have pc2 : w.cell? ⟨gp,2,none⟩ = some (.string p.f2):=(blk_cell hp 2).trans rfl
 have pf2:=blk_frozen hp 2
 have pc3 : w.cell? ⟨gp,3,none⟩ = some (.string p.f3):=(blk_cell hp 3).trans rfl
 have pf3:=blk_frozen hp 3
 have pc4 : w.cell? ⟨gp,4,none⟩ = some (.int .i64 p.f4):=(blk_cell hp 4).trans rfl
 have pf4:=blk_frozen hp 4
 have pc5 : w.cell? ⟨gp,5,none⟩ = some (.slice A5 p.f5.length c5):=(blk_cell hp 5).trans rfl
 have pf5:=blk_frozen hp 5
 have pc6 : w.cell? ⟨gp,6,none⟩ = some (.slice A6 p.f6.length c6):=(blk_cell hp 6).trans rfl
 have pf6:=blk_frozen hp 6
 have qc0 : w.cell? ⟨gq,0,none⟩ = some (.int .i64 q.f0):=(blk_cell hq 0).trans rfl
 have qf0:=blk_frozen hq 0
 have qc1 : w.cell? ⟨gq,1,none⟩ = some (.string q.f1):=(blk_cell hq 1).trans rfl
 have qf1:=blk_frozen hq 1
 have qc2 : w.cell? ⟨gq,2,none⟩ = some (.string q.f2):=(blk_cell hq 2).trans rfl
 have qf2:=blk_frozen hq 2
 have qc3 : w.cell? ⟨gq,3,none⟩ = some (.string q.f3):=(blk_cell hq 3).trans rfl
 have qf3:=blk_frozen hq 3
 have qc4 : w.cell? ⟨gq,4,none⟩ = some (.int .i64 q.f4):=(blk_cell hq 4).trans rfl
 have qf4:=blk_frozen hq 4
 have qc5 : w.cell? ⟨gq,5,none⟩ = some (.slice B5 q.f5.length d5):=(blk_cell hq 5).trans rfl
 have qf5:=blk_frozen hq 5
 have qc6 : w.cell? ⟨gq,6,none⟩ = some (.slice B6 q.f6.length d6):=(blk_cell hq 6).trans rfl
 have qf6:=blk_frozen hq 6
 go_enter Tryd.func87,Tryd.ntmps87
 go_wp2
 all_goals go_region_with (go_at_call 88; refine (carry_calls p A5 c5 A6 c6 gp q.f1 q.f2 _ hs (by exact hp)).mono ?_; rintro e w1 ⟨rfl,hb1⟩)
 all_goals go_wp2
 all_goals go_ret
 all_goals exact ⟨rfl,Left1.two_p hne hq (by repeat (first | exact hb1 | refine Left1.drew ?_ | refine Left1.of_drew ?_))⟩
set_option maxHeartbeats 2000000 in
set_option maxRecDepth 100000 in
theorem rule2_calls (p q : S24) (A5 : Option Addr) (c5 : Nat) (A6 : Option Addr) (c6 : Nat) (B5 : Option Addr) (d5 : Nat) (B6 : Option Addr) (d6 : Nat) (gp gq : Nat) (hne : gp ≠ gq) (w : World)
  (hp : w.heap[gp]? = some (.cells #[.int .i64 p.f0,.string p.f1,.string p.f2,.string p.f3,.int .i64 p.f4,.slice A5 p.f5.length c5,.slice A6 p.f6.length c6] 24 (0,0))) (hq : w.heap[gq]? = some (.cells #[.int .i64 q.f0,.string q.f1,.string q.f2,.string q.f3,.int .i64 q.f4,.slice B5 q.f5.length d5,.slice B6 q.f6.length d6] 24 (0,0))) (hs : p.f1.size + q.f1.size ≤ 140737488355328) :
  Calls Tryd.prog 89 #[.pointer (some ⟨gp,0,none⟩),.pointer (some ⟨gq,0,none⟩)] w fun e w' => e = .returned (.bool (carryS q.f1 p.f2 p.f1).2) ∧ Left2 w gp gq (cs p A5 c5 A6 c6) (cs { q with f1:=(carryS q.f1 p.f2 p.f1).1 } B5 d5 B6 d6) w':=by
 have pc0 : w.cell? ⟨gp,0,none⟩ = some (.int .i64 p.f0):=(blk_cell hp 0).trans rfl
 have pf0:=blk_frozen hp 0
 have pc1 : w.cell? ⟨gp,1,none⟩ = some (.string p.f1):=(blk_cell hp 1).trans rfl
 have pf1:=blk_frozen hp 1
 have pc2 : w.cell? ⟨gp,2,none⟩ = some (.string p.f2):=(blk_cell hp 2).trans rfl
 have pf2:=blk_frozen hp 2
 have pc3 : w.cell? ⟨gp,3,none⟩ = some (.string p.f3):=(blk_cell hp 3).trans rfl
 have pf3:=blk_frozen hp 3
 have pc4 : w.cell? ⟨gp,4,none⟩ = some (.int .i64 p.f4):=(blk_cell hp 4).trans rfl
 have pf4:=blk_frozen hp 4
 have pc5 : w.cell? ⟨gp,5,none⟩ = some (.slice A5 p.f5.length c5):=(blk_cell hp 5).trans rfl
 have pf5:=blk_frozen hp 5
 have pc6 : w.cell? ⟨gp,6,none⟩ = some (.slice A6 p.f6.length c6):=(blk_cell hp 6).trans rfl
 have pf6:=blk_frozen hp 6
 have qc0 : w.cell? ⟨gq,0,none⟩ = some (.int .i64 q.f0):=(blk_cell hq 0).trans rfl
 have qf0:=blk_frozen hq 0
 have qc1 : w.cell? ⟨gq,1,none⟩ = some (.string q.f1):=(blk_cell hq 1).trans rfl
 have qf1:=blk_frozen hq 1
 have qc2 : w.cell? ⟨gq,2,none⟩ = some (.string q.f2):=(blk_cell hq 2).trans rfl
 have qf2:=blk_frozen hq 2
 have qc3 : w.cell? ⟨gq,3,none⟩ = some (.string q.f3):=(blk_cell hq 3).trans rfl
 have qf3:=blk_frozen hq 3
 have qc4 : w.cell? ⟨gq,4,none⟩ = some (.int .i64 q.f4):=(blk_cell hq 4).trans rfl
 have qf4:=blk_frozen hq 4
 have qc5 : w.cell? ⟨gq,5,none⟩ = some (.slice B5 q.f5.length d5):=(blk_cell hq 5).trans rfl
 have qf5:=blk_frozen hq 5
 have qc6 : w.cell? ⟨gq,6,none⟩ = some (.slice B6 q.f6.length d6):=(blk_cell hq 6).trans rfl
 have qf6:=blk_frozen hq 6
 go_enter Tryd.func89,Tryd.ntmps89
 go_wp2
 all_goals go_region_with (go_at_call 88; refine (carry_calls q B5 d5 B6 d6 gq p.f2 p.f1 _ hs (by exact hq)).mono ?_; rintro e w1 ⟨rfl,hb1⟩)
 all_goals go_wp2
 all_goals go_ret
 all_goals exact ⟨rfl,Left1.two_q hne hp (by repeat (first | exact hb1 | refine Left1.drew ?_ | refine Left1.of_drew ?_))⟩
end Go.Proofs.YthhohbidjhcjeaaDoor.H

namespace Go.Proofs.YthhohbidjhcjeaaDoor.H
open Go.RowKit Go.Proofs.YthhohbidjhcjeaaDoorW.PrintWords Go.Proofs.YthhohbidjhcjeaaDoorW.PrintLast Go.Proofs.YthhohbidjhcjeaaDoorW.PrintMore
open Go.Proofs.YthhohbidjhcjeaaDoor.Q Go.Proofs.YthhohbidjhcjeaaDoor.Pl

abbrev zeroC : Array Value:=#[.int .i64 0,.string ⟨#[]⟩,.string ⟨#[]⟩,.string ⟨#[]⟩,.int .i64 0,.slice none 0 0,.slice none 0 0]
/-- The four boxes of Commute: the two patches, and the two results. -/
structure St (w : World) (cp cq : Array Value) (W : World) : Prop where
 p : W.heap[w.heap.size]? = some (.cells cp 24 (0,0))
 q : W.heap[w.heap.size + 1]? = some (.cells cq 24 (0,0))
 x : W.heap[w.heap.size + 1 + 1]? = some (.cells zeroC 24 (0,0))
 y : W.heap[w.heap.size + 1 + 1 + 1]? = some (.cells zeroC 24 (0,0))
 below : Below w.heap.size w W
theorem St.start (w : World) (cp cq : Array Value) : St w cp cq ((((w.alloc (.cells cp 24)).alloc (.cells cq 24)).alloc (.cells zeroC 24)).alloc (.cells zeroC 24)):=by
 refine ⟨blk_alloc (blk_alloc (blk_alloc (blk_new w _) _) _) _,?_,?_,?_,?_⟩
 ·have h:=blk_alloc (blk_alloc (blk_new (w.alloc (.cells cp 24)) (.cells cq 24)) (.cells zeroC 24)) (.cells zeroC 24)
  simpa using h
 ·have h:=blk_alloc (blk_new ((w.alloc (.cells cp 24)).alloc (.cells cq 24)) (.cells zeroC 24)) (.cells zeroC 24)
  simpa using h
 ·have h:=blk_new (((w.alloc (.cells cp 24)).alloc (.cells cq 24)).alloc (.cells zeroC 24)) (.cells zeroC 24)
  simpa using h
 ·exact ((((Below.refl _ w).alloc (Nat.le_refl _) _).alloc (by simp) _).alloc (by simp; omega) _).alloc (by simp; omega) _
theorem St.drew {w W : World} {cp cq : Array Value} (h : St w cp cq W) : St w cp cq W.drew:=⟨h.p,h.q,h.x,h.y,h.below.drew⟩
theorem St.later {w W W' : World} {cp cq : Array Value} (h : St w cp cq W) (hb : Below W.heap.size W W') : St w cp cq W' :=
 ⟨blk_below h.p hb,blk_below h.q hb,blk_below h.x hb,blk_below h.y hb,h.below.trans (hb.mono h.below.size)⟩
theorem St.left {w W W' : World} {cp cq cp' cq' : Array Value} (h : St w cp cq W) (k : Left2 W w.heap.size (w.heap.size + 1) cp' cq' W') : St w cp' cq' W' :=
 ⟨k.p,k.q,(k.other _ (blk_lt h.x) (by omega) (by omega)).trans h.x,(k.other _ (blk_lt h.y) (by omega) (by omega)).trans h.y,k.below _ _ h.below (Nat.le_refl _) (Nat.le_succ _)⟩
/-- A patch whose lists are known in w. -/
structure Rd (w : World) (x : S24) (A5 : Option Addr) (c5 : Nat) (A6 : Option Addr) (c6 : Nat) : Prop where
 g5 : Kd.C Kd.string w A5 x.f5.length x.f5
 l5 : x.f5.length ≤ c5
 g6 : Kd.C Kd.string w A6 x.f6.length x.f6
 l6 : x.f6.length ≤ c6
theorem right_st (x : S24) (A5 : Option Addr) (c5 : Nat) (A6 : Option Addr) (c6 : Nat) (w W : World) (cp cq : Array Value) (hx : Okp x) (hr : Rd w x A5 c5 A6 c6) (h : St w cp cq W) :
  Calls Tryd.prog 19 #[.agg #[.int .i64 x.f0,.string x.f1,.string x.f2,.string x.f3,.int .i64 x.f4,.slice A5 x.f5.length c5,.slice A6 x.f6.length c6]] W fun e W' => e = .returned (.bool (primB x)) ∧ St w cp cq W':=by
 obtain ⟨k,hk⟩:=(prim_right x hx).rounds
 refine (prim_Right.calls k _ _ _ _ _ _ _ _ _ _ _ _ W (Kd.C_below hr.g5 h.below) hr.l5 (Kd.C_below hr.g6 h.below) hr.l6 hk).mono ?_
 rintro e W' ⟨rfl,hb⟩
 exact ⟨rfl,h.later hb⟩
/-- A patch's class. -/
def classS (x : S24) : Int:=if x.f0 = 10 then 2 else if x.f0 ≥ 7 then 1 else 0
theorem class_st (x : S24) (A5 : Option Addr) (c5 : Nat) (A6 : Option Addr) (c6 : Nat) (w W : World) (cp cq : Array Value) (hr : Rd w x A5 c5 A6 c6) (h : St w cp cq W) :
  Calls Tryd.prog 53 #[.agg #[.int .i64 x.f0,.string x.f1,.string x.f2,.string x.f3,.int .i64 x.f4,.slice A5 x.f5.length c5,.slice A6 x.f6.length c6]] W fun e W' => e = .returned (.int .i64 (classS x)) ∧ St w cp cq W':=by
 have hk : commute_class.f x.f0 x.f1 x.f2 x.f3 x.f4 x.f5 x.f6 = some (classS x):=by
  unfold commute_class.f classS
  split
  ·rfl
  ·split <;> rfl
 refine (commute_class.calls _ _ _ _ _ _ _ _ _ _ _ _ W (Kd.C_below hr.g5 h.below) hr.l5 (Kd.C_below hr.g6 h.below) hr.l6 hk).mono ?_
 rintro e W' ⟨rfl,hb⟩
 exact ⟨rfl,h.later hb⟩
/-- The table of the rules. -/
def rulesV : Array Value:=#[.func (.func 84) #[] #[],.func (.func 85) #[] #[],.func (.func 84) #[] #[],.func (.func 85) #[] #[],.func (.func 86) #[] #[],.func (.func 87) #[] #[],.func (.func 84) #[] #[],.func (.func 89) #[] #[],.func (.func 84) #[] #[]]
set_option maxRecDepth 100000 in
theorem rules_calls (w : World) : Calls Tryd.prog 52 #[] w fun e w' => e = .returned (.agg rulesV) ∧ Below w.heap.size w w':=by
 go_enter Tryd.func52,Tryd.ntmps52
 go_wp2
 refine bodyPost_ret (v:=.agg rulesV) ?_ rfl ⟨rfl,?_⟩
 ·simp [results,Tryd.results52,go_sem,rulesV]
 ·exact (Below.refl _ w).alloc (Nat.le_refl _) _
theorem rules_st (w W : World) (cp cq : Array Value) (h : St w cp cq W) : Calls Tryd.prog 52 #[] W fun e W' => e = .returned (.agg rulesV) ∧ St w cp cq W' :=
 (rules_calls W).mono (fun _ _ ⟨he,hb⟩ => ⟨he,h.later hb⟩)
/-- Where the orders of a region meet: what follows is shown once, of every world that meets S. -/
theorem cutG {S G : World → Prop} {goal : Prop} (h : (∀ W,S W → G W) → goal) (h2 : ∀ W,S W → G W) : goal:=h h2
/-- What is read in a box, and that it may be written. -/
theorem cells7 {W : World} {g : Nat} {v0 v1 v2 v3 v4 v5 v6 : Value} (h : W.heap[g]? = some (.cells #[v0,v1,v2,v3,v4,v5,v6] 24 (0,0))) : W.cell? ⟨g,0,none⟩ = some v0 ∧ W.cell? ⟨g,1,none⟩ = some v1 ∧ W.cell? ⟨g,2,none⟩ = some v2 ∧ W.cell? ⟨g,3,none⟩ = some v3 ∧ W.cell? ⟨g,4,none⟩ = some v4 ∧ W.cell? ⟨g,5,none⟩ = some v5 ∧ W.cell? ⟨g,6,none⟩ = some v6 :=
 ⟨(blk_cell h 0).trans rfl,(blk_cell h 1).trans rfl,(blk_cell h 2).trans rfl,(blk_cell h 3).trans rfl,(blk_cell h 4).trans rfl,(blk_cell h 5).trans rfl,(blk_cell h 6).trans rfl⟩
theorem frozen7 {W : World} {g : Nat} {c : Array Value} (h : W.heap[g]? = some (.cells c 24 (0,0))) : W.frozen? ⟨g,0,none⟩ = false ∧ W.frozen? ⟨g,1,none⟩ = false ∧ W.frozen? ⟨g,2,none⟩ = false ∧ W.frozen? ⟨g,3,none⟩ = false ∧ W.frozen? ⟨g,4,none⟩ = false ∧ W.frozen? ⟨g,5,none⟩ = false ∧ W.frozen? ⟨g,6,none⟩ = false:=⟨blk_frozen h 0,blk_frozen h 1,blk_frozen h 2,blk_frozen h 3,blk_frozen h 4,blk_frozen h 5,blk_frozen h 6⟩
/-- .. and behind what is laid beside it. -/
theorem deep1 {W : World} {g : Nat} {v0 v1 v2 v3 v4 v5 v6 : Value} (h : W.heap[g]? = some (.cells #[v0,v1,v2,v3,v4,v5,v6] 24 (0,0))) : (∀ o,(W.alloc o).cell? ⟨g,0,none⟩ = some v0) ∧ (∀ o,(W.alloc o).cell? ⟨g,1,none⟩ = some v1) ∧ (∀ o,(W.alloc o).cell? ⟨g,2,none⟩ = some v2) ∧ (∀ o,(W.alloc o).cell? ⟨g,3,none⟩ = some v3) ∧ (∀ o,(W.alloc o).cell? ⟨g,4,none⟩ = some v4) ∧ (∀ o,(W.alloc o).cell? ⟨g,5,none⟩ = some v5) ∧ (∀ o,(W.alloc o).cell? ⟨g,6,none⟩ = some v6) :=
 ⟨fun o => (blk_cell (blk_alloc h o) 0).trans rfl,fun o => (blk_cell (blk_alloc h o) 1).trans rfl,fun o => (blk_cell (blk_alloc h o) 2).trans rfl,fun o => (blk_cell (blk_alloc h o) 3).trans rfl,fun o => (blk_cell (blk_alloc h o) 4).trans rfl,fun o => (blk_cell (blk_alloc h o) 5).trans rfl,fun o => (blk_cell (blk_alloc h o) 6).trans rfl⟩
theorem deep2 {W : World} {g : Nat} {v0 v1 v2 v3 v4 v5 v6 : Value} (h : W.heap[g]? = some (.cells #[v0,v1,v2,v3,v4,v5,v6] 24 (0,0))) : (∀ o o',((W.alloc o).alloc o').cell? ⟨g,0,none⟩ = some v0) ∧ (∀ o o',((W.alloc o).alloc o').cell? ⟨g,1,none⟩ = some v1) ∧ (∀ o o',((W.alloc o).alloc o').cell? ⟨g,2,none⟩ = some v2) ∧ (∀ o o',((W.alloc o).alloc o').cell? ⟨g,3,none⟩ = some v3) ∧ (∀ o o',((W.alloc o).alloc o').cell? ⟨g,4,none⟩ = some v4) ∧ (∀ o o',((W.alloc o).alloc o').cell? ⟨g,5,none⟩ = some v5) ∧ (∀ o o',((W.alloc o).alloc o').cell? ⟨g,6,none⟩ = some v6) :=
 ⟨fun o o' => (blk_cell (blk_alloc (blk_alloc h o) o') 0).trans rfl,fun o o' => (blk_cell (blk_alloc (blk_alloc h o) o') 1).trans rfl,fun o o' => (blk_cell (blk_alloc (blk_alloc h o) o') 2).trans rfl,fun o o' => (blk_cell (blk_alloc (blk_alloc h o) o') 3).trans rfl,fun o o' => (blk_cell (blk_alloc (blk_alloc h o) o') 4).trans rfl,fun o o' => (blk_cell (blk_alloc (blk_alloc h o) o') 5).trans rfl,fun o o' => (blk_cell (blk_alloc (blk_alloc h o) o') 6).trans rfl⟩
/-- A patch written into a box. -/
theorem set7 {W : World} {g : Nat} {c : Array Value} (h : W.heap[g]? = some (.cells c 24 (0,0))) (hc : c.size = 7) (v0 v1 v2 v3 v4 v5 v6 : Value) : (((((((W.setCell ⟨g,0,none⟩ v0).setCell ⟨g,1,none⟩ v1).setCell ⟨g,2,none⟩ v2).setCell ⟨g,3,none⟩ v3).setCell ⟨g,4,none⟩ v4).setCell ⟨g,5,none⟩ v5).setCell ⟨g,6,none⟩ v6).heap[g]? = some (.cells #[v0,v1,v2,v3,v4,v5,v6] 24 (0,0)):=by
 refine (blk_set (blk_set (blk_set (blk_set (blk_set (blk_set (blk_set h 0 v0) 1 v1) 2 v2) 3 v3) 4 v4) 5 v5) 6 v6).trans ?_
 refine congrArg (fun a => some (Obj.cells a 24 (0,0))) ?_
 obtain ⟨l⟩:=c
 match l,hc with
 | [a0,a1,a2,a3,a4,a5,a6],_ => rfl
theorem keep7 {W : World} {g k : Nat} (hk : k ≠ g) (v0 v1 v2 v3 v4 v5 v6 : Value) : (((((((W.setCell ⟨g,0,none⟩ v0).setCell ⟨g,1,none⟩ v1).setCell ⟨g,2,none⟩ v2).setCell ⟨g,3,none⟩ v3).setCell ⟨g,4,none⟩ v4).setCell ⟨g,5,none⟩ v5).setCell ⟨g,6,none⟩ v6).heap[k]? = W.heap[k]?:=by
 rw [Below.heap_setCell _ _ _ _ hk,Below.heap_setCell _ _ _ _ hk,Below.heap_setCell _ _ _ _ hk,Below.heap_setCell _ _ _ _ hk,Below.heap_setCell _ _ _ _ hk,Below.heap_setCell _ _ _ _ hk,Below.heap_setCell _ _ _ _ hk]
theorem below7 {W w : World} {g B : Nat} (hb : Below B w W) (hg : B ≤ g) (v0 v1 v2 v3 v4 v5 v6 : Value) : Below B w (((((((W.setCell ⟨g,0,none⟩ v0).setCell ⟨g,1,none⟩ v1).setCell ⟨g,2,none⟩ v2).setCell ⟨g,3,none⟩ v3).setCell ⟨g,4,none⟩ v4).setCell ⟨g,5,none⟩ v5).setCell ⟨g,6,none⟩ v6) :=
 Below.setCell (Below.setCell (Below.setCell (Below.setCell (Below.setCell (Below.setCell (Below.setCell hb hg _) hg _) hg _) hg _) hg _) hg _) hg _
theorem drew_at {W : World} {k : Nat} {o : Option Obj} (h : W.heap[k]? = o) : W.drew.heap[k]? = o:=h
theorem ret24 {tmps : Array Value} {W : World} {gx gy : Nat} {x0 x1 x2 x3 x4 x5 x6 y0 y1 y2 y3 y4 y5 y6 r : Value} (h4 : tmps[4]? = some (.pointer (some ⟨gx,0,none⟩))) (h5 : tmps[5]? = some (.pointer (some ⟨gy,0,none⟩))) (h6 : tmps[6]? = some r)
  (hx : W.heap[gx]? = some (.cells #[x0,x1,x2,x3,x4,x5,x6] 24 (0,0))) (hy : W.heap[gy]? = some (.cells #[y0,y1,y2,y3,y4,y5,y6] 24 (0,0))) :
  (results Tryd.f24 tmps).run Tryd.prog W = .ok (.tuple #[.agg #[x0,x1,x2,x3,x4,x5,x6],.agg #[y0,y1,y2,y3,y4,y5,y6],r]) W:=by
 have xc0 : W.cell? ⟨gx,0,none⟩ = some x0:=(blk_cell hx 0).trans rfl
 have xc1 : W.cell? ⟨gx,1,none⟩ = some x1:=(blk_cell hx 1).trans rfl
 have xc2 : W.cell? ⟨gx,2,none⟩ = some x2:=(blk_cell hx 2).trans rfl
 have xc3 : W.cell? ⟨gx,3,none⟩ = some x3:=(blk_cell hx 3).trans rfl
 have xc4 : W.cell? ⟨gx,4,none⟩ = some x4:=(blk_cell hx 4).trans rfl
 have xc5 : W.cell? ⟨gx,5,none⟩ = some x5:=(blk_cell hx 5).trans rfl
 have xc6 : W.cell? ⟨gx,6,none⟩ = some x6:=(blk_cell hx 6).trans rfl
 have yc0 : W.cell? ⟨gy,0,none⟩ = some y0:=(blk_cell hy 0).trans rfl
 have yc1 : W.cell? ⟨gy,1,none⟩ = some y1:=(blk_cell hy 1).trans rfl
 have yc2 : W.cell? ⟨gy,2,none⟩ = some y2:=(blk_cell hy 2).trans rfl
 have yc3 : W.cell? ⟨gy,3,none⟩ = some y3:=(blk_cell hy 3).trans rfl
 have yc4 : W.cell? ⟨gy,4,none⟩ = some y4:=(blk_cell hy 4).trans rfl
 have yc5 : W.cell? ⟨gy,5,none⟩ = some y5:=(blk_cell hy 5).trans rfl
 have yc6 : W.cell? ⟨gy,6,none⟩ = some y6:=(blk_cell hy 6).trans rfl
 simp [results,Tryd.results24,go_sem, *]
end Go.Proofs.YthhohbidjhcjeaaDoor.H
