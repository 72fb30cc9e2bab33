/- The contract of commute.Commute. -/
import Derived.Test.YthhohbidjhcjeaaDoorTPf
import Derived.Test.YthhohbidjhcjeaaDoorTCh
namespace Go.Proofs.YthhohbidjhcjeaaDoor.H
open Go.RowKit Go.Proofs.YthhohbidjhcjeaaDoorW.PrintWords Go.Proofs.YthhohbidjhcjeaaDoorW.PrintLast Go.Proofs.YthhohbidjhcjeaaDoorW.PrintMore
open Go.Proofs.YthhohbidjhcjeaaDoor.Q Go.Proofs.YthhohbidjhcjeaaDoor.Pl

theorem row0 : ∀ W,(Instr.index 70 (.agg rulesV) (.int .i64 0)).run Tryd.prog W = .ok (.agg #[.func (.func 84) #[] #[],.func (.func 85) #[] #[],.func (.func 84) #[] #[]]) W:=fun _ => by kernel_rfl
theorem row00 : ∀ W,(Instr.index 69 (.agg #[.func (.func 84) #[] #[],.func (.func 85) #[] #[],.func (.func 84) #[] #[]]) (.int .i64 0)).run Tryd.prog W = .ok (.func (.func 84) #[] #[]) W:=fun _ => by kernel_rfl
theorem row01 : ∀ W,(Instr.index 69 (.agg #[.func (.func 84) #[] #[],.func (.func 85) #[] #[],.func (.func 84) #[] #[]]) (.int .i64 1)).run Tryd.prog W = .ok (.func (.func 85) #[] #[]) W:=fun _ => by kernel_rfl
theorem row02 : ∀ W,(Instr.index 69 (.agg #[.func (.func 84) #[] #[],.func (.func 85) #[] #[],.func (.func 84) #[] #[]]) (.int .i64 2)).run Tryd.prog W = .ok (.func (.func 84) #[] #[]) W:=fun _ => by kernel_rfl
theorem row1 : ∀ W,(Instr.index 70 (.agg rulesV) (.int .i64 1)).run Tryd.prog W = .ok (.agg #[.func (.func 85) #[] #[],.func (.func 86) #[] #[],.func (.func 87) #[] #[]]) W:=fun _ => by kernel_rfl
theorem row10 : ∀ W,(Instr.index 69 (.agg #[.func (.func 85) #[] #[],.func (.func 86) #[] #[],.func (.func 87) #[] #[]]) (.int .i64 0)).run Tryd.prog W = .ok (.func (.func 85) #[] #[]) W:=fun _ => by kernel_rfl
theorem row11 : ∀ W,(Instr.index 69 (.agg #[.func (.func 85) #[] #[],.func (.func 86) #[] #[],.func (.func 87) #[] #[]]) (.int .i64 1)).run Tryd.prog W = .ok (.func (.func 86) #[] #[]) W:=fun _ => by kernel_rfl
theorem row12 : ∀ W,(Instr.index 69 (.agg #[.func (.func 85) #[] #[],.func (.func 86) #[] #[],.func (.func 87) #[] #[]]) (.int .i64 2)).run Tryd.prog W = .ok (.func (.func 87) #[] #[]) W:=fun _ => by kernel_rfl
theorem row2 : ∀ W,(Instr.index 70 (.agg rulesV) (.int .i64 2)).run Tryd.prog W = .ok (.agg #[.func (.func 84) #[] #[],.func (.func 89) #[] #[],.func (.func 84) #[] #[]]) W:=fun _ => by kernel_rfl
theorem row20 : ∀ W,(Instr.index 69 (.agg #[.func (.func 84) #[] #[],.func (.func 89) #[] #[],.func (.func 84) #[] #[]]) (.int .i64 0)).run Tryd.prog W = .ok (.func (.func 84) #[] #[]) W:=fun _ => by kernel_rfl
theorem row21 : ∀ W,(Instr.index 69 (.agg #[.func (.func 84) #[] #[],.func (.func 89) #[] #[],.func (.func 84) #[] #[]]) (.int .i64 1)).run Tryd.prog W = .ok (.func (.func 89) #[] #[]) W:=fun _ => by kernel_rfl
theorem row22 : ∀ W,(Instr.index 69 (.agg #[.func (.func 84) #[] #[],.func (.func 89) #[] #[],.func (.func 84) #[] #[]]) (.int .i64 2)).run Tryd.prog W = .ok (.func (.func 84) #[] #[]) W:=fun _ => by kernel_rfl
theorem class2 {x : S24} (h : x.f0 = 10) : classS x = 2:=if_pos h
theorem class1 {x : S24} (h : ¬ x.f0 = 10) (h7 : 7 ≤ x.f0) : classS x = 1:=(if_neg h).trans (if_pos h7)
theorem class0 {x : S24} (h : ¬ x.f0 = 10) (h7 : ¬ 7 ≤ x.f0) : classS x = 0:=(if_neg h).trans (if_neg h7)
/-- The function that the table gives. -/
structure Fn (n : Nat) (p q : S24) : Prop where
 en : ∀ args w,(callFunc n args).run Tryd.prog w = .ok (.enter n args) w
 at' : ∃ row : Array Value,(∀ W,(Instr.index 70 (.agg rulesV) (.int .i64 (classS p))).run Tryd.prog W = .ok (.agg row) W) ∧ ∀ W,(Instr.index 69 (.agg row) (.int .i64 (classS q))).run Tryd.prog W = .ok (.func (.func n) #[] #[]) W
theorem rule_fn (p q : S24) (A5 : Option Addr) (c5 : Nat) (A6 : Option Addr) (c6 : Nat) (B5 : Option Addr) (d5 : Nat) (B6 : Option Addr) (d6 : Nat) (w : World) (bp : primB p = true) (bq : primB q = true) :
  ∃ n,Fn n p q ∧ ∀ W,St w (cs p A5 c5 A6 c6) (cs q B5 d5 B6 d6) W → Calls Tryd.prog n #[.pointer (some ⟨w.heap.size,0,none⟩),.pointer (some ⟨w.heap.size + 1,0,none⟩)] W fun e W' => e = .returned (.bool (ruleS p q).2.2) ∧ St w (cs (ruleS p q).1 A5 c5 A6 c6) (cs (ruleS p q).2.1 B5 d5 B6 d6) W':=by
 have s1:=prim_f1 bp
 have s2:=prim_f1 bq
 by_cases cp : p.f0 = 10
 ·by_cases cq : q.f0 = 10
  ·have hr : ruleS p q = (p,q,apartL (pathsS p) (pathsS q)):=by unfold ruleS; rw [if_pos cp,if_pos cq]
   rw [hr]
   refine ⟨84,⟨fun args w => by go_simp,#[.func (.func 84) #[] #[],.func (.func 89) #[] #[],.func (.func 84) #[] #[]],by rw [class2 cp]; exact row2,by rw [class2 cq]; exact row22⟩,fun W h => ?_⟩
   refine (still_calls p q A5 c5 A6 c6 B5 d5 B6 d6 _ _ W h.p h.q).mono ?_
   rintro e W' ⟨rfl,hb⟩
   exact ⟨rfl,h.later hb⟩
  ·by_cases dq : 7 ≤ q.f0
   ·have hr : ruleS p q = (p,{ q with f1:=(carryS q.f1 p.f2 p.f1).1 },(carryS q.f1 p.f2 p.f1).2):=by unfold ruleS; rw [if_pos cp,if_neg cq,if_pos dq]
    rw [hr]
    refine ⟨89,⟨fun args w => by go_simp,#[.func (.func 84) #[] #[],.func (.func 89) #[] #[],.func (.func 84) #[] #[]],by rw [class2 cp]; exact row2,by rw [class1 cq dq]; exact row21⟩,fun W h => ?_⟩
    refine (rule2_calls p q A5 c5 A6 c6 B5 d5 B6 d6 _ _ (by omega) W h.p h.q (by omega)).mono ?_
    rintro e W' ⟨rfl,hb⟩
    exact ⟨rfl,h.left hb⟩
   ·have hr : ruleS p q = (p,q,apartL (pathsS p) (pathsS q)):=by unfold ruleS; rw [if_pos cp,if_neg cq,if_neg dq]
    rw [hr]
    refine ⟨84,⟨fun args w => by go_simp,#[.func (.func 84) #[] #[],.func (.func 89) #[] #[],.func (.func 84) #[] #[]],by rw [class2 cp]; exact row2,by rw [class0 cq dq]; exact row20⟩,fun W h => ?_⟩
    refine (still_calls p q A5 c5 A6 c6 B5 d5 B6 d6 _ _ W h.p h.q).mono ?_
    rintro e W' ⟨rfl,hb⟩
    exact ⟨rfl,h.later hb⟩
 ·by_cases dp : 7 ≤ p.f0
  ·by_cases cq : q.f0 = 10
   ·have hr : ruleS p q = ({ p with f1:=(carryS p.f1 q.f1 q.f2).1 },q,(carryS p.f1 q.f1 q.f2).2):=by unfold ruleS; rw [if_neg cp,if_pos dp,if_pos cq]
    rw [hr]
    refine ⟨87,⟨fun args w => by go_simp,#[.func (.func 85) #[] #[],.func (.func 86) #[] #[],.func (.func 87) #[] #[]],by rw [class1 cp dp]; exact row1,by rw [class2 cq]; exact row12⟩,fun W h => ?_⟩
    refine (rule1_calls p q A5 c5 A6 c6 B5 d5 B6 d6 _ _ (by omega) W h.p h.q (by have:=prim_f2 bq cq; omega)).mono ?_
    rintro e W' ⟨rfl,hb⟩
    exact ⟨rfl,h.left hb⟩
   ·by_cases dq : 7 ≤ q.f0
    ·have hr : ruleS p q = bothS p q:=by unfold ruleS; rw [if_neg cp,if_pos dp,if_neg cq,if_pos dq]
     rw [hr]
     refine ⟨86,⟨fun args w => by go_simp,#[.func (.func 85) #[] #[],.func (.func 86) #[] #[],.func (.func 87) #[] #[]],by rw [class1 cp dp]; exact row1,by rw [class1 cq dq]; exact row11⟩,fun W h => ?_⟩
     refine (both_calls p q A5 c5 A6 c6 B5 d5 B6 d6 _ _ (by omega) W h.p h.q).mono ?_
     rintro e W' ⟨rfl,hb⟩
     exact ⟨rfl,h.left hb⟩
    ·have hr : ruleS p q = (p,q,p.f1.toList != q.f1.toList):=by unfold ruleS; rw [if_neg cp,if_pos dp,if_neg cq,if_neg dq]
     rw [hr]
     refine ⟨85,⟨fun args w => by go_simp,#[.func (.func 85) #[] #[],.func (.func 86) #[] #[],.func (.func 87) #[] #[]],by rw [class1 cp dp]; exact row1,by rw [class0 cq dq]; exact row10⟩,fun W h => ?_⟩
     refine (beside_calls p q A5 c5 A6 c6 B5 d5 B6 d6 _ _ W h.p h.q).mono ?_
     rintro e W' ⟨rfl,hb⟩
     exact ⟨rfl,h.later hb⟩
  ·by_cases cq : q.f0 = 10
   ·have hr : ruleS p q = (p,q,apartL (pathsS p) (pathsS q)):=by unfold ruleS; rw [if_neg cp,if_neg dp,if_pos cq]
    rw [hr]
    refine ⟨84,⟨fun args w => by go_simp,#[.func (.func 84) #[] #[],.func (.func 85) #[] #[],.func (.func 84) #[] #[]],by rw [class0 cp dp]; exact row0,by rw [class2 cq]; exact row02⟩,fun W h => ?_⟩
    refine (still_calls p q A5 c5 A6 c6 B5 d5 B6 d6 _ _ W h.p h.q).mono ?_
    rintro e W' ⟨rfl,hb⟩
    exact ⟨rfl,h.later hb⟩
   ·by_cases dq : 7 ≤ q.f0
    ·have hr : ruleS p q = (p,q,p.f1.toList != q.f1.toList):=by unfold ruleS; rw [if_neg cp,if_neg dp,if_neg cq,if_pos dq]
     rw [hr]
     refine ⟨85,⟨fun args w => by go_simp,#[.func (.func 84) #[] #[],.func (.func 85) #[] #[],.func (.func 84) #[] #[]],by rw [class0 cp dp]; exact row0,by rw [class1 cq dq]; exact row01⟩,fun W h => ?_⟩
     refine (beside_calls p q A5 c5 A6 c6 B5 d5 B6 d6 _ _ W h.p h.q).mono ?_
     rintro e W' ⟨rfl,hb⟩
     exact ⟨rfl,h.later hb⟩
    ·have hr : ruleS p q = (p,q,apartL (pathsS p) (pathsS q)):=by unfold ruleS; rw [if_neg cp,if_neg dp,if_neg cq,if_neg dq]
     rw [hr]
     refine ⟨84,⟨fun args w => by go_simp,#[.func (.func 84) #[] #[],.func (.func 85) #[] #[],.func (.func 84) #[] #[]],by rw [class0 cp dp]; exact row0,by rw [class0 cq dq]; exact row00⟩,fun W h => ?_⟩
     refine (still_calls p q A5 c5 A6 c6 B5 d5 B6 d6 _ _ W h.p h.q).mono ?_
     rintro e W' ⟨rfl,hb⟩
     exact ⟨rfl,h.later hb⟩
theorem Rd.of {w : World} {x y : S24} {A5 : Option Addr} {c5 : Nat} {A6 : Option Addr} {c6 : Nat} (h : Rd w x A5 c5 A6 c6) (h5 : y.f5 = x.f5) (h6 : y.f6 = x.f6) : Rd w y A5 c5 A6 c6:=by
 obtain ⟨a,b,c,d⟩:=h
 exact ⟨by rw [h5]; exact a,by rw [h5]; exact b,by rw [h6]; exact c,by rw [h6]; exact d⟩
theorem Rd.below {w w' : World} {x : S24} {A5 : Option Addr} {c5 : Nat} {A6 : Option Addr} {c6 : Nat} (h : Rd w x A5 c5 A6 c6) (hb : Below w.heap.size w w') : Rd w' x A5 c5 A6 c6:=⟨Kd.C_below h.g5 hb,h.l5,Kd.C_below h.g6 hb,h.l6⟩
/-- Commute, of two patches whose cells are known. -/
theorem comm_at (p q : S24) (A5 : Option Addr) (c5 : Nat) (A6 : Option Addr) (c6 : Nat) (B5 : Option Addr) (d5 : Nat) (B6 : Option Addr) (d6 : Nat) (w : World) (hp : Okp p) (hq : Okp q) (rp : Rd w p A5 c5 A6 c6) (rq : Rd w q B5 d5 B6 d6) :
  Calls Tryd.prog 24 #[.agg (cs p A5 c5 A6 c6),.agg (cs q B5 d5 B6 d6)] w fun e w' => ((comm p q = (z24,z24,false) ∧ e = .returned (.tuple #[.agg zeroC,.agg zeroC,.bool false])) ∨ ∃ a b,Yes p q a b ∧ e = .returned (.tuple #[.agg (cs a B5 d5 B6 d6),.agg (cs b A5 c5 A6 c6),.bool true])) ∧ Below w.heap.size w w':=by
 cases bp : primB p with
 | false =>
  refine (comm_np p q A5 c5 A6 c6 B5 d5 B6 d6 w hp rp bp).mono ?_
  rintro e w' ⟨rfl,hb⟩
  exact ⟨.inl ⟨if_neg (fun h => by rw [h.1] at bp; cases bp),rfl⟩,hb⟩
 | true =>
  cases bq : primB q with
  | false =>
   refine (comm_nq p q A5 c5 A6 c6 B5 d5 B6 d6 w hp rp bp hq rq bq).mono ?_
   rintro e w' ⟨rfl,hb⟩
   exact ⟨.inl ⟨if_neg (fun h => by rw [h.2.1] at bq; cases bq),rfl⟩,hb⟩
  | true =>
   obtain ⟨n,⟨en,row,h70,h69⟩,hrule⟩:=rule_fn p q A5 c5 A6 c6 B5 d5 B6 d6 w bp bq
   obtain ⟨b,a,r,hr⟩ : ∃ b a r,ruleS p q = (b,a,r):=⟨_,_,_,rfl⟩
   obtain ⟨hb,ha⟩:=okp_rule hr bp bq hp hq
   obtain ⟨kb,ka⟩:=rule_keep hr
   have rb : Rd w b A5 c5 A6 c6:=rp.of (by rw [kb]) (by rw [kb])
   have ra : Rd w a B5 d5 B6 d6:=rq.of (by rw [ka]) (by rw [ka])
   rw [hr] at hrule
   obtain ⟨x3,h3⟩ : ∃ x,primB b = x:=⟨_,rfl⟩
   obtain ⟨x4,h4⟩ : ∃ x,primB a = x:=⟨_,rfl⟩
   refine (comm_in p q b a A5 c5 A6 c6 B5 d5 B6 d6 w r x3 x4 hp rp bp hq rq bq hb rb h3 ha ra h4 n en row h70 h69 hrule).mono ?_
   intro e w' hP
   have hno : (r = true ∧ x3 = true ∧ x4 = true → False) → comm p q = (z24,z24,false):=fun hn => if_neg (fun h => by
    rw [hr] at h
    exact hn ⟨h.2.2.1,h3.symm.trans h.2.2.2.1,h4.symm.trans h.2.2.2.2⟩)
   cases r with
   | false => exact ⟨.inl ⟨hno (fun h => by cases h.1),hP.1⟩,hP.2⟩
   | true =>
    cases x3 with
    | false => exact ⟨.inl ⟨hno (fun h => by cases h.2.1),hP.1⟩,hP.2⟩
    | true =>
     cases x4 with
     | false => exact ⟨.inl ⟨hno (fun h => by cases h.2.2),hP.1⟩,hP.2⟩
     | true => exact ⟨.inr ⟨a,b,⟨bp,bq,h4,h3,hr⟩,hP.1⟩,hP.2⟩
theorem two_steps {u T v : World} (hT : Below u.heap.size u T) (hb : Below T.heap.size T v) : Below u.heap.size u v:=hT.trans (hb.mono hT.size)
theorem box1 (u : World) (o o' : Obj) : ((u.alloc o).alloc o').heap[u.heap.size]? = some o:=blk_alloc (blk_new u o) o'
theorem box2 (u : World) (o o' : Obj) : ((u.alloc o).alloc o').heap[u.heap.size + 1]? = some o':=by
 have h:=blk_new (u.alloc o) o'
 simpa using h
/-- Commute, of two patches of which it is known what they are the other way about. -/
theorem comm_is {a b : S24} (p q : S24) (A5 : Option Addr) (c5 : Nat) (A6 : Option Addr) (c6 : Nat) (B5 : Option Addr) (d5 : Nat) (B6 : Option Addr) (d6 : Nat) (w : World) (hp : Okp p) (hq : Okp q) (rp : Rd w p A5 c5 A6 c6) (rq : Rd w q B5 d5 B6 d6) (hy : Yes p q a b) :
  Calls Tryd.prog 24 #[.agg (cs p A5 c5 A6 c6),.agg (cs q B5 d5 B6 d6)] w fun e w' => e = .returned (.tuple #[.agg (cs a B5 d5 B6 d6),.agg (cs b A5 c5 A6 c6),.bool true]) ∧ Below w.heap.size w w':=by
 refine (comm_at p q A5 c5 A6 c6 B5 d5 B6 d6 w hp hq rp rq).mono ?_
 rintro e w' ⟨⟨hn,rfl⟩ | ⟨c,d,h2,rfl⟩,hb⟩
 ·rw [comm_of hy] at hn
  cases hn
 ·obtain ⟨rfl,rfl,-⟩:=prod3 ((comm_of h2).symm.trans (comm_of hy))
  exact ⟨rfl,hb⟩
theorem comm_not (p q : S24) (A5 : Option Addr) (c5 : Nat) (A6 : Option Addr) (c6 : Nat) (B5 : Option Addr) (d5 : Nat) (B6 : Option Addr) (d6 : Nat) (w : World) (hp : Okp p) (hq : Okp q) (rp : Rd w p A5 c5 A6 c6) (rq : Rd w q B5 d5 B6 d6) (hn : (comm p q).2.2 = false) :
  Calls Tryd.prog 24 #[.agg (cs p A5 c5 A6 c6),.agg (cs q B5 d5 B6 d6)] w fun e w' => e = .returned (.tuple #[.agg zeroC,.agg zeroC,.bool false]) ∧ Below w.heap.size w w':=by
 refine (comm_at p q A5 c5 A6 c6 B5 d5 B6 d6 w hp hq rp rq).mono ?_
 rintro e w' ⟨⟨_,rfl⟩ | ⟨c,d,h2,rfl⟩,hb⟩
 ·exact ⟨rfl,hb⟩
 ·rw [comm_of h2] at hn
  cases hn
theorem great_at (x : S24) (A5 : Option Addr) (c5 : Nat) (A6 : Option Addr) (c6 : Nat) (w : World) (hx : Okp x) (rx : Rd w x A5 c5 A6 c6) :
  ∃ r,(r = false → x.f5.length + x.f6.length < 4000) ∧ Calls Tryd.prog 16 #[.agg (cs x A5 c5 A6 c6)] w fun e w' => e = .returned (.bool r) ∧ Below w.heap.size w w':=by
 obtain ⟨r,hr,hl⟩:=great x hx.ok
 obtain ⟨k,hk⟩:=hr.rounds
 exact ⟨r,hl,counterpanelaw08_Great.calls k _ _ _ _ _ _ _ _ _ _ _ r w rx.g5 rx.l5 rx.g6 rx.l6 hk⟩
theorem same_at (x : S24) (A5 : Option Addr) (c5 : Nat) (A6 : Option Addr) (c6 : Nat) (B5 : Option Addr) (d5 : Nat) (B6 : Option Addr) (d6 : Nat) (w : World) (hx : Okp x) (rx : Rd w x A5 c5 A6 c6) (ry : Rd w x B5 d5 B6 d6) :
  Calls Tryd.prog 20 #[.agg (cs x A5 c5 A6 c6),.agg (cs x B5 d5 B6 d6)] w fun e w' => e = .returned (.bool true) ∧ Below w.heap.size w w':=by
 obtain ⟨r,hr,hj⟩:=same08 x x hx.ok
 obtain rfl:=hj.2 rfl
 obtain ⟨k,hk⟩:=hr.rounds
 exact counterpaneref08_Same.calls k _ _ _ _ _ _ _ _ _ _ _ _ _ _ _ _ _ _ _ _ _ _ _ w rx.g5 rx.l5 rx.g6 rx.l6 ry.g5 ry.l5 ry.g6 ry.l6 hk
end Go.Proofs.YthhohbidjhcjeaaDoor.H
